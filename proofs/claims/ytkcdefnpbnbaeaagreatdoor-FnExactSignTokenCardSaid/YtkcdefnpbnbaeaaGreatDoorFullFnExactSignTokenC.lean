/- Printed texts, walks and plain facts that the law FnExactSignToken leans on, joined. -/
import Derived.Deep.MidRow
import Derived.Test.YtkcdefnpbnbaeaaGreatDoorFullFnExactSignTokenB
import Derived.Shelf.Strings.Builder1
import Derived.StillTailTactics
import Derived.Laws.BitsLemmas
import Derived.WalkSpells
import Derived.Shelf.Abstract
import Derived.Deep.QuietTactic
import Derived.BigQuiet
import Derived.Laws.Cover1
set_option maxHeartbeats 8000000
set_option maxRecDepth 100000
open List renaming map_toArray → jq0, map_cons → jq1, map_nil → jq2, length_drop → jq3, length_take → jq4, setIfInBounds_toArray → jq5, set_cons_zero → jq6, set_cons_succ → jq7
open Option renaming bind_eq_some_iff → jq8
open Bool renaming eq_false_iff → jq9, true → Z, false → Y
namespace Go.Proofs.YtkcdefnpbnbaeaaGreatDoor.Pr
open Go.RowKit Go.Proofs.YtkcdefnpbnbaeaaGreatDoorW.PrintWords Go.Proofs.YtkcdefnpbnbaeaaGreatDoorW.PrintLast Go.Proofs.YtkcdefnpbnbaeaaGreatDoorW.PrintMore
attribute [local go_sem] max2_int min2_int max_two min_two max_three min_three max_four min_four
set_option linter.unusedVariables false
set_option linter.unusedSimpArgs false
def qkw.f (k:Nat) (a0_0:Int) (a0_1:Int) (a0_2:Int) (a0_3:ByteArray) (a0_4:ByteArray) (l0_5:List (S30)) (l0_6:List ByteArray):Option (Bool):=(zqz.f k a0_0 a0_1 a0_2 a0_3 a0_4 l0_5 l0_6).bind fun t102=>(if t102=true then((qkv.f k a0_0 a0_1 a0_2 a0_3 a0_4 l0_5 l0_6).bind fun t103=>(some (decide ((t103.size:Int)≤4000)))) else(some false))
theorem qkw.calls (k:Nat) (a0_0:Int) (a0_1:Int) (a0_2:Int) (a0_3:ByteArray) (a0_4:ByteArray) (A0_5:Option Addr) (c0_5:Nat) (l0_5:List (S30)) (A0_6:Option Addr) (c0_6:Nat) (l0_6:List ByteArray) (r:Bool) (w:World) (hr0_5:Kd.C k30 w A0_5 l0_5.length l0_5) (hc0_5:l0_5.length≤c0_5) (hr0_6:Kd.C Kd.string w A0_6 l0_6.length l0_6) (hc0_6:l0_6.length≤c0_6) (h:qkw.f k a0_0 a0_1 a0_2 a0_3 a0_4 l0_5 l0_6=some r) :
  Calls Tryz.prog 14 #[.agg #[.int .i64 a0_0,.int .i64 a0_1,.int .i64 a0_2,.string a0_3,.string a0_4,.slice A0_5 l0_5.length c0_5,.slice A0_6 l0_6.length c0_6]] w fun e w'=>e=.returned (.bool r)∧Below w.heap.size w w':=by
 have hu33:=Tryz.underlying33;have HR0_5:=U.mk hr0_5;have HC0_5:=U.mk hc0_5;clear hr0_5 hc0_5;have HR0_6:=U.mk hr0_6;have HC0_6:=U.mk hc0_6;clear hr0_6 hc0_6;have HB:=U.mk (Below.refl w.heap.size w);unfold qkw.f at h;have H:=h;clear h;replace H:=jq8.mp H;obtain⟨t102,A20,H⟩:=H;try dsimp only at H
 have A2:=U.mk A20;clear A20
 by_cases c3:t102=true
 ·subst c3;have H1:((qkv.f k a0_0 a0_1 a0_2 a0_3 a0_4 l0_5 l0_6).bind fun t103=>(some (decide ((t103.size:Int)≤4000))))=some r:=by rw[if_pos rfl] at H;exact H
  clear H;have H:=H1;clear H1;replace H:=jq8.mp H;obtain⟨t103,A40,H⟩:=H;try dsimp only at H
  have A4:=U.mk A40;clear A40;obtain rfl:=Option.some.inj H;go_enter Tryz.func14,Tryz.ntmps14;go_wp2_with (first|((with_reducible refine gate_dst (N:=1) rfl ?_);(try (refine gate_guard (by rfl) ?_;dsimp only));refine box_event ?hg (N:=1) ?hd (cs:=#[.int .i64 a0_0,.int .i64 a0_1,.int .i64 a0_2,.string a0_3,.string a0_4,.slice A0_5 l0_5.length c0_5,.slice A0_6 l0_6.length c0_6]) (t:=33) ?hr ?_;(case hd=>rfl);(case hg=>rfl);(case hr=>first|(go_simp;done)|(go_simp;rfl));intro gb101 hg w5 hbox hb;have BK101:=U.mk (hbox);have GW101:=U.mk ((by rw[hg];exact(zq (by solve_by_elim only[HB.out,L,O,J])):w.heap.size≤gb101));have GE101:=GW101;replace HB:=U.mk (qx (by solve_by_elim only[HB.out,L,O,J]) hb);clear hb hbox hg;obtain⟨y6_0,y6_1,y6_2,y6_3,y6_4,y6_5,y6_6,z6_0,z6_1,z6_2,z6_3,z6_4,z6_5,z6_6⟩:=bx7f BK101.out)|((with_reducible refine zx (f:=34) rfl ?_);refine goesL_ (some 4) rfl rfl Tryz.func34 (by kernel_rfl) rfl #[.agg #[.int .i64 a0_0,.int .i64 a0_1,.int .i64 a0_2,.string a0_3,.string a0_4,.slice A0_5 l0_5.length c0_5,.slice A0_6 l0_6.length c0_6]] rfl (by(try simp only[jq0,jq1,jq2]);first|done|rfl|(simp only[jq3,jq4];rfl)) ?_;(with_reducible refine(zqz.calls k a0_0 a0_1 a0_2 a0_3 a0_4 _ _ l0_5 _ _ l0_6 true _ ?side1 ?side2 ?side3 ?side4 A2.out).mono ?_);(case side1=>solve_by_elim only[(Kd.C_below HR0_5.out HB.out),Kd.C_alloc,Kd.C_drewN,Kd.C_drew]);(case side2=>exact HC0_5.out);(case side3=>solve_by_elim only[(Kd.C_below HR0_6.out HB.out),Kd.C_alloc,Kd.C_drewN,Kd.C_drew]);(case side4=>exact HC0_6.out);rintro e w7 ⟨rfl,hb⟩;refine⟨_,rfl,?_⟩;replace BK101:=U.mk (jx (by solve_by_elim only[BK101.out,qk,qv,qj]) hb);replace HB:=U.mk (qx (by solve_by_elim (maxDepth:=20) only[HB.out,L,O,J,qz,GE101.out]) hb);(try clear hb);obtain⟨y8_0,y8_1,y8_2,y8_3,y8_4,y8_5,y8_6,z8_0,z8_1,z8_2,z8_3,z8_4,z8_5,z8_6⟩:=bx7f BK101.out)|(go_at_call 16;(with_reducible refine(qkv.calls k a0_0 a0_1 a0_2 a0_3 a0_4 _ _ l0_5 _ _ l0_6 t103 _ ?side1 ?side2 ?side3 ?side4 A4.out).mono ?_);(case side1=>solve_by_elim only[(Kd.C_below HR0_5.out HB.out),Kd.C_alloc,Kd.C_drewN,Kd.C_drew]);(case side2=>exact HC0_5.out);(case side3=>solve_by_elim only[(Kd.C_below HR0_6.out HB.out),Kd.C_alloc,Kd.C_drewN,Kd.C_drew]);(case side4=>exact HC0_6.out);rintro e w9 ⟨rfl,hb⟩;replace BK101:=U.mk (jx (by solve_by_elim only[BK101.out,qk,qv,qj]) hb);replace HB:=U.mk (qx (by solve_by_elim (maxDepth:=20) only[HB.out,L,O,J,qz,GE101.out]) hb);(try clear hb)))
  go_ret
  exact⟨by first|rfl|(simp[*,zw,zv] <;> rfl),by solve_by_elim (maxDepth:=20) only[HB.out,L,O,J,qz,GE101.out]⟩
 ·replace c3:=jq9.mpr c3;subst c3;have H1:(some false)=some r:=by rw[if_neg (show ¬ (false=true) by decide)] at H;exact H
  clear H;have H:=H1;clear H1;obtain rfl:=Option.some.inj H;go_enter Tryz.func14,Tryz.ntmps14;go_wp2_with (first|((with_reducible refine gate_dst (N:=1) rfl ?_);(try (refine gate_guard (by rfl) ?_;dsimp only));refine box_event ?hg (N:=1) ?hd (cs:=#[.int .i64 a0_0,.int .i64 a0_1,.int .i64 a0_2,.string a0_3,.string a0_4,.slice A0_5 l0_5.length c0_5,.slice A0_6 l0_6.length c0_6]) (t:=33) ?hr ?_;(case hd=>rfl);(case hg=>rfl);(case hr=>first|(go_simp;done)|(go_simp;rfl));intro gb101 hg w10 hbox hb;have BK101:=U.mk (hbox);have GW101:=U.mk ((by rw[hg];exact(zq (by solve_by_elim only[HB.out,L,O,J])):w.heap.size≤gb101));have GE101:=GW101;replace HB:=U.mk (qx (by solve_by_elim only[HB.out,L,O,J]) hb);clear hb hbox hg;obtain⟨y11_0,y11_1,y11_2,y11_3,y11_4,y11_5,y11_6,z11_0,z11_1,z11_2,z11_3,z11_4,z11_5,z11_6⟩:=bx7f BK101.out)|((with_reducible refine zx (f:=34) rfl ?_);refine goesL_ (some 4) rfl rfl Tryz.func34 (by kernel_rfl) rfl #[.agg #[.int .i64 a0_0,.int .i64 a0_1,.int .i64 a0_2,.string a0_3,.string a0_4,.slice A0_5 l0_5.length c0_5,.slice A0_6 l0_6.length c0_6]] rfl (by(try simp only[jq0,jq1,jq2]);first|done|rfl|(simp only[jq3,jq4];rfl)) ?_;(with_reducible refine(zqz.calls k a0_0 a0_1 a0_2 a0_3 a0_4 _ _ l0_5 _ _ l0_6 false _ ?side1 ?side2 ?side3 ?side4 A2.out).mono ?_);(case side1=>solve_by_elim only[(Kd.C_below HR0_5.out HB.out),Kd.C_alloc,Kd.C_drewN,Kd.C_drew]);(case side2=>exact HC0_5.out);(case side3=>solve_by_elim only[(Kd.C_below HR0_6.out HB.out),Kd.C_alloc,Kd.C_drewN,Kd.C_drew]);(case side4=>exact HC0_6.out);rintro e w12 ⟨rfl,hb⟩;refine⟨_,rfl,?_⟩;replace BK101:=U.mk (jx (by solve_by_elim only[BK101.out,qk,qv,qj]) hb);replace HB:=U.mk (qx (by solve_by_elim (maxDepth:=20) only[HB.out,L,O,J,qz,GE101.out]) hb);(try clear hb)))
  go_ret
  exact⟨by first|rfl|(simp[*,zw,zv] <;> rfl),by solve_by_elim (maxDepth:=20) only[HB.out,L,O,J,qz,GE101.out]⟩
def qxq.f  : Option (ByteArray):=some (⟨#[48,49,50,51,52,53,54,55,56,57,97,98,99,100,101,102,103,104,105,106,107,108,109,110,111,112,113,114,115,116,117,118]⟩ : ByteArray)
theorem qxq.calls  (r:ByteArray) (w:World) (h:qxq.f  = some r) :
  Calls Tryz.prog 35 #[] w fun e w'=>e=.returned (.string r)∧Drawn0 w w':=by
 unfold qxq.f at h;have H:=h;clear h;obtain rfl:=Option.some.inj H;go_enter Tryz.func35,Tryz.ntmps35;go_wp2;go_ret
 exact⟨by first|rfl|(simp;done)|(simp[*];done),by repeat(first|exact Drawn0.refl _|apply Drawn0.step)⟩
mutual
def qwk.l0:Nat→List Int→List Int→Int→Option (ByteArray)
 | 0,_,_,_=>none
 | k + 1,x0,x3,x4=>if x4 < (wrap64 ((x0.length:Int) * 8)) then(qwk.l1 k x0 x3 x4 0 x4) else(some (strOfNums x3))
def qwk.l1:Nat→List Int→List Int→Int→Int→Int→Option (ByteArray)
 | 0,_,_,_,_,_=>none
 | k + 1,x0,x3,x4,x5,x6=>if x6 < (wrap64 (x4 + 5)) then(if x6 < (wrap64 ((x0.length:Int) * 8)) then(if 0≤(wrap64 (Int.tdiv x6 8)) then(if (wrap64 (Int.tdiv x6 8)) < (x0.length:Int) then(if 0≤(IntKind.u64.wrap (wrap64 (7 - (Int.tmod x6 8)))) then(qwk.l1 k x0 x3 x4 (wrap64 ((wrap64 (x5 * 2)) + (Go.bits .and .i64 (shr .i64 (wrap64 (rd x0 (wrap64 (Int.tdiv x6 8)))) (IntKind.u64.wrap (wrap64 (7 - (Int.tmod x6 8))))) 1))) (wrap64 (x6 + 1))) else(none)) else(none)) else(none)) else(qwk.l1 k x0 x3 x4 (wrap64 (x5 * 2)) (wrap64 (x6 + 1)))) else((qxq.f).bind fun t102=>(if 0≤x5 then(if x5 < (t102.size:Int) then(if x3.length < 140737488355328 then(qwk.l0 k x0 (x3 ++ [bt t102 x5]) (wrap64 (x4 + 5))) else(none)) else(none)) else(none)))
end
def qwk.f (k:Nat) (l0:List Int):Option (ByteArray):=qwk.l0 k l0 ([]:List Int) 0
theorem qwk.calls (k:Nat) (A0:Option Addr) (c0:Nat) (l0:List Int) (r:ByteArray) (w:World) (hr0:Kd.C (Kd.int .u8) w A0 l0.length l0) (hc0:l0.length≤c0) (h:qwk.f k l0=some r) :
  Calls Tryz.prog 15 #[.slice A0 l0.length c0] w fun e w'=>e=.returned (.string r)∧Below w.heap.size w w':=by
 have HR0:=U.mk hr0;have HC0:=U.mk hc0;clear hr0 hc0;have HB:=U.mk (Below.refl w.heap.size w);have H:(qwk.l0 k l0 ([]:List Int) 0)=some r:=h;clear h;have H':=U.mk H;clear H;go_enter Tryz.func15,Tryz.ntmps15;go_wp2
 go_loopg [3,4] k (fun kq v3 v4 w'=>∃ (x3_1:List Int) (x4_1:Int),v4=.int .i64 x4_1∧U (qwk.l0 kq l0 x3_1 x4_1=some r)∧U (kq≤k)∧U (Kd.R (Kd.int .u8) 5 w' w.heap.size (fun _=>True) v3 x3_1)∧U (Below w.heap.size w w'))
 case atStart=>exact⟨(([]:List Int)),(0),(by first|rfl|(simp;done)|(simp[*];done)),H',⟨Nat.le_refl _⟩,⟨by first|exact Kd.R_nil _ _ _ _ _|exact Kd.N_nil _ _ _ _ _|exact Kd.V_nil _ _ _ _ _|exact Kd.Q_nil _ _ _ _ _|exact Kd.S_nil _ _ _ _ _⟩,⟨by solve_by_elim only[HB.out,L,O,J]⟩⟩
 case round =>
  clear H';try clear c1
  obtain⟨x3_1,x4_1,rfl,HA,HK1,HO_3,HB⟩:=hrel
  cases gk with
  | zero=>exact absurd HA.out (by simp[qwk.l0])
  | succ k1 =>
   have H:=HA.out;clear HA;simp only[qwk.l0] at H
   by_cases c2:x4_1 < (wrap64 ((l0.length:Int) * 8))
   ·rw[if_pos c2] at H;have c2b0:decide (x4_1 < (wrap64 ((l0.length:Int) * 8)))=true:=decide_eq_true c2;clear c2;have H':=U.mk H;clear H;go_wp2
    go_loopg [5,6] k1 (fun kq v5 v6 w'=>∃ (x5_2:Int) (x6_2:Int),v5=.int .i64 x5_2∧v6=.int .i64 x6_2∧U (qwk.l1 kq l0 x3_1 x4_1 x5_2 x6_2=some r)∧U (kq≤k1)∧U (Kd.R (Kd.int .u8) 5 w' w.heap.size (fun _=>True) u3 x3_1)∧U (Below w.heap.size w w'))
    case atStart=>exact⟨(0),(x4_1),(by first|rfl|(simp;done)|(simp[*];done)),(by first|rfl|(simp;done)|(simp[*];done)),H',⟨Nat.le_refl _⟩,⟨by(with_reducible repeat(first|apply Kd.zj|apply Kd.zz|apply Kd.zk));exact HO_3.out⟩,⟨by solve_by_elim only[HB.out,L,O,J]⟩⟩
    case round =>
     clear H';try clear c1
     try clear c2
     try clear c2b0
     try clear p2
     obtain⟨x5_2,x6_2,rfl,rfl,HA,HK2,HO_3,HB⟩:=hrel
     cases gk with
     | zero=>exact absurd HA.out (by simp[qwk.l1])
     | succ k2 =>
      have H:=HA.out;clear HA;simp only[qwk.l1] at H
      by_cases c3:x6_2 < (wrap64 (x4_1 + 5))
      ·rw[if_pos c3] at H;have c3b0:decide (x6_2 < (wrap64 (x4_1 + 5)))=true:=decide_eq_true c3;clear c3
       by_cases c4:x6_2 < (wrap64 ((l0.length:Int) * 8))
       ·rw[if_pos c4] at H;have c4b0:decide (x6_2 < (wrap64 ((l0.length:Int) * 8)))=true:=decide_eq_true c4;clear c4;obtain⟨ji5,hji5⟩ : ∃ j_:Int,(wrap64 (Int.tdiv x6_2 8))=j_:=⟨_,rfl⟩;replace H:(if 0≤(ji5) then(if (ji5) < (l0.length:Int) then(if 0≤(IntKind.u64.wrap (wrap64 (7 - (Int.tmod x6_2 8)))) then(qwk.l1 k2 l0 x3_1 x4_1 (wrap64 ((wrap64 (x5_2 * 2)) + (Go.bits .and .i64 (shr .i64 (wrap64 (rd l0 (ji5))) (IntKind.u64.wrap (wrap64 (7 - (Int.tmod x6_2 8))))) 1))) (wrap64 (x6_2 + 1))) else(none)) else(none)) else(none))=some r:=by first|(rw[hji5] at H;exact H)|(simp only[hji5] at H ⊢;exact H)
        have hji5w:(IntKind.i64.wrap (Int.tdiv x6_2 8))=ji5:=(i64_w _).trans hji5
        by_cases c6 : 0≤(ji5)
        ·rw[if_pos c6] at H;have c6b0:decide (0≤(ji5))=true:=decide_eq_true c6;clear c6
         by_cases c7:(ji5) < (l0.length:Int)
         ·rw[if_pos c7] at H;have c7b0:decide ((ji5) < (l0.length:Int))=true:=decide_eq_true c7;clear c7;obtain⟨ji8,hji8⟩ : ∃ j_:Int,(IntKind.u64.wrap (wrap64 (7 - (Int.tmod x6_2 8))))=j_:=⟨_,rfl⟩;replace H:(if 0≤(ji8) then(qwk.l1 k2 l0 x3_1 x4_1 (wrap64 ((wrap64 (x5_2 * 2)) + (Go.bits .and .i64 (shr .i64 (wrap64 (rd l0 (ji5))) (ji8)) 1))) (wrap64 (x6_2 + 1))) else(none))=some r:=by first|(rw[hji8] at H;exact H)|(simp only[hji8] at H ⊢;exact H)
          by_cases c9 : 0≤(ji8)
          ·rw[if_pos c9] at H;have c9b0:=eq_true c9;have c9b1:decide (0≤(ji8))=true:=decide_eq_true c9;clear c9;obtain⟨ji10,hji10⟩ : ∃ j_:Int,(shr .i64 (wrap64 (rd l0 (ji5))) (ji8))=j_:=⟨_,rfl⟩;replace H:(qwk.l1 k2 l0 x3_1 x4_1 (wrap64 ((wrap64 (x5_2 * 2)) + (Go.bits .and .i64 (ji10) 1))) (wrap64 (x6_2 + 1)))=some r:=by first|(rw[hji10] at H;exact H)|(simp only[hji10] at H ⊢;exact H)
           have hji10_:((wrap64 (rd l0 (ji5))) / 2 ^ min (ji8).toNat 64)=ji10:=hji10;have hji10z:(ji8)≤64→((wrap64 (rd l0 (ji5))) / 2 ^ (ji8).toNat)=ji10:=shr_small hji10;have H':=U.mk H;clear H;have p101 : 0≤((ji5):Int):=of_decide_eq_true (by assumption);have q101:(ji5) < (l0.length:Int):=of_decide_eq_true (by assumption);obtain⟨ad101,e101,hx101_0⟩:=Kd.at_int HR0.out (ji5) p101 q101
           cases e101
           replace hx101_0:=(HB.out.cell (World.block_lt_of_cell? w _ hx101_0)).trans hx101_0;replace p101:=eq_true p101;replace q101:=eq_true q101;go_wp2;go_roundg k2
           case measure=>have:=HK1.out;have:=HK2.out;omega
           case rel=>exact⟨(wrap64 ((wrap64 (x5_2 * 2)) + (Go.bits .and .i64 (ji10) 1))),(wrap64 (x6_2 + 1)),(by first|rfl|(simp;done)|(simp only[← hji10] <;> (first|rfl|simp))|(simp[*];done)),(by first|rfl|(simp;done)|(simp[*];done)),H',⟨by have:=HK1.out;have:=HK2.out;omega⟩,⟨by(with_reducible repeat(first|apply Kd.zj|apply Kd.zz|apply Kd.zk));exact HO_3.out⟩,⟨by solve_by_elim only[HB.out,L,O,J]⟩⟩
          ·rw[if_neg c9] at H;exact absurd H (by simp)
         ·rw[if_neg c7] at H;exact absurd H (by simp)
        ·rw[if_neg c6] at H;exact absurd H (by simp)
       ·rw[if_neg c4] at H;have c4b0:decide (x6_2 < (wrap64 ((l0.length:Int) * 8)))=false:=decide_eq_false c4;clear c4;have H':=U.mk H;clear H;go_wp2;go_roundg k2
        case measure=>have:=HK1.out;have:=HK2.out;omega
        case rel=>exact⟨(wrap64 (x5_2 * 2)),(wrap64 (x6_2 + 1)),(by first|rfl|(simp;done)|(simp[*];done)),(by first|rfl|(simp;done)|(simp[*];done)),H',⟨by have:=HK1.out;have:=HK2.out;omega⟩,⟨by(with_reducible repeat(first|apply Kd.zj|apply Kd.zz|apply Kd.zk));exact HO_3.out⟩,⟨by solve_by_elim only[HB.out,L,O,J]⟩⟩
      ·rw[if_neg c3] at H;have c3b0:decide (x6_2 < (wrap64 (x4_1 + 5)))=false:=decide_eq_false c3;clear c3;replace H:=jq8.mp H;obtain⟨t102,A110,H⟩:=H;try dsimp only at H
       have A11:=U.mk A110;clear A110
       by_cases c12 : 0≤x5_2
       ·rw[if_pos c12] at H;have c12b0:decide (0≤x5_2)=true:=decide_eq_true c12;clear c12
        by_cases c13:x5_2 < (t102.size:Int)
        ·rw[if_pos c13] at H;have c13b0:decide (x5_2 < (t102.size:Int))=true:=decide_eq_true c13;clear c13
         by_cases c15:x3_1.length < 140737488355328
         ·rw[if_pos c15] at H;have LMc15:=U.mk c15;clear c15;obtain⟨y103,hy103⟩ : ∃ y_:List Int,y_=(x3_1 ++ [bt t102 x5_2]):=⟨_,rfl⟩;replace H:(qwk.l0 k2 l0 y103 (wrap64 (x4_1 + 5)))=some r:=by first|(rw[hy103];with_reducible exact H)|(have H2_:=(Option.bind_some _ _).symm.trans H;rw[hy103];with_reducible exact H2_)|(have H2_:=(Option.bind_some _ _).symm.trans H;with_reducible exact H2_)|with_reducible exact H|(rw[hy103];exact H)|exact H
          have Ny103:=U.mk hy103;clear hy103;have H':=U.mk H;clear H;go_wp2_with (first|((with_reducible refine zx (f:=35) rfl ?_);refine goesL_ (some 43) rfl rfl Tryz.func35 (by kernel_rfl) rfl #[] rfl (by(try simp only[jq0,jq1,jq2]);first|done|rfl|(simp only[jq3,jq4];rfl)) ?_;(with_reducible refine(qxq.calls  t102 _ A11.out).mono ?_);rintro e w' ⟨rfl,⟨nd,rfl⟩⟩;refine⟨_,rfl,?_⟩;have p14 : 0≤(x5_2:Int):=of_decide_eq_true (by assumption);have q14:x5_2 < (t102.size:Int):=of_decide_eq_true (by assumption);have hx14:=bt_at t102 x5_2;replace p14:=eq_true p14;replace q14:=eq_true q14)|((with_reducible refine gate_builtin (b:=.append) (xs:=#[.tmp 42,.tmp 46]) rfl ?_);at_builtin;refine Kd.R_append (Kd.int .u8) (w0:=w) w.heap.size rfl (.tmp 42) (.tmp 46) 44 5 (.int .u8 0) 1 rfl Tryz.underlying44 info5 rfl (by decide) (by omega) u3 x3_1 (bt t102 x5_2) [.int .u8 (bt t102 x5_2)] (fun _=>True) (fun _=>False) rfl rfl ?aP (fun _ hk=>hk.elim) ?aF ?aO ?aB ?aS ?aL ?_;(case aP=>exact rfl);(case aB=>exact(by solve_by_elim only[HB.out,L,O,J]));(case aF=>exact(fun _ _=>trivial));(case aO=>exact(by solve_by_elim only[HO_3.out,Kd.zj,Kd.zz,Kd.zk]));(case aS=>exact(zq (by solve_by_elim only[HB.out,L,O,J])));(case aL=>have:=LMc15.out;omega);intro v104 w16 ho hb hg hat;rw[← Ny103.out] at ho;replace HB:=U.mk (hb);have HO105:=U.mk (ho);clear HO_3;clear ho hb hg hat))
          go_roundg k2
          case measure=>have:=HK1.out;have:=HK2.out;omega
          case rel=>exact⟨(y103),(wrap64 (x4_1 + 5)),(by first|rfl|(simp;done)|(simp[*];done)),H',⟨by have:=HK1.out;have:=HK2.out;omega⟩,⟨by(with_reducible repeat(first|apply Kd.zj|apply Kd.zz|apply Kd.zk));exact HO105.out⟩,⟨by solve_by_elim only[HB.out,L,O,J]⟩⟩
         ·rw[if_neg c15] at H;exact absurd H (by simp)
        ·rw[if_neg c13] at H;exact absurd H (by simp)
       ·rw[if_neg c12] at H;exact absurd H (by simp)
   ·rw[if_neg c2] at H;have c2b0:decide (x4_1 < (wrap64 ((l0.length:Int) * 8)))=false:=decide_eq_false c2;clear c2;obtain rfl:=Option.some.inj H;have hcv17:=own_string (P:=Tryz.prog) Tryz.underlying44 Tryz.underlying5 Tryz.underlying9 (Kd.own_of_R HO_3.out);go_wp2;go_ret
    exact⟨by first|rfl|(simp[*,zw,zv] <;> rfl),by solve_by_elim only[HB.out,L,O,J]⟩
end Go.Proofs.YtkcdefnpbnbaeaaGreatDoor.Pr
namespace Go.Proofs.YtkcdefnpbnbaeaaGreatDoor.Pr
open Go.RowKit Go.Proofs.YtkcdefnpbnbaeaaGreatDoorW.PrintWords Go.Proofs.YtkcdefnpbnbaeaaGreatDoorW.PrintLast Go.Proofs.YtkcdefnpbnbaeaaGreatDoorW.PrintMore
attribute [local go_sem] max2_int min2_int max_two min_two max_three min_three max_four min_four
set_option linter.unusedVariables false
set_option linter.unusedSimpArgs false
def qxk.l0:Nat→List Int→Int→Int→Option (Int)
 | 0,_,_,_=>none
 | k + 1,x0,x3,x4=>if x4 ≥ 0 then(if 0≤x4 then(if x4 < (x0.length:Int) then(qxk.l0 k x0 (wrap64 ((wrap64 (x3 * 256)) + (wrap64 (rd x0 x4)))) (wrap64 (x4 - 1))) else(none)) else(none)) else(some x3)
def qxk.f (k:Nat) (l0:List Int):Option (Int):=qxk.l0 k l0 0 3
theorem qxk.calls (k:Nat) (A0:Option Addr) (c0:Nat) (l0:List Int) (r:Int) (w:World) (hr0:Kd.C (Kd.int .u8) w A0 l0.length l0) (hc0:l0.length≤c0) (h:qxk.f k l0=some r) :
  Calls Tryz.prog 38 #[.slice A0 l0.length c0] w fun e w'=>e=.returned (.int .i64 r)∧Drawn0 w w':=by
 have HR0:=U.mk hr0;have HC0:=U.mk hc0;clear hr0 hc0;have H:(qxk.l0 k l0 0 3)=some r:=h;clear h;have H':=U.mk H;clear H;go_enter Tryz.func38,Tryz.ntmps38;go_wp2
 go_loopg [3,4] k (fun kq v3 v4 w'=>∃ (x3_1:Int) (x4_1:Int),v3=.int .i64 x3_1∧v4=.int .i64 x4_1∧U (qxk.l0 kq l0 x3_1 x4_1=some r)∧U (kq≤k)∧Drawn0 w w')
 case atStart=>exact⟨(0),(3),(by first|rfl|(simp;done)|(simp[*];done)),(by first|rfl|(simp;done)|(simp[*];done)),H',⟨Nat.le_refl _⟩,by repeat(first|exact Drawn0.refl _|apply Drawn0.step)⟩
 case round =>
  clear H';obtain⟨x3_1,x4_1,rfl,rfl,HA,HK1,⟨m1,rfl⟩⟩:=hrel
  cases gk with
  | zero=>exact absurd HA.out (by simp[qxk.l0])
  | succ k1 =>
   have H:=HA.out;clear HA;simp only[qxk.l0] at H
   by_cases c2:x4_1 ≥ 0
   ·rw[if_pos c2] at H;have c2b0:decide (0≤x4_1)=true:=decide_eq_true c2;clear c2
    by_cases c3 : 0≤x4_1
    ·rw[if_pos c3] at H;have c3b0:decide (0≤x4_1)=true:=decide_eq_true c3;clear c3
     by_cases c4:x4_1 < (l0.length:Int)
     ·rw[if_pos c4] at H;have c4b0:decide (x4_1 < (l0.length:Int))=true:=decide_eq_true c4;clear c4;have H':=U.mk H;clear H;have p101 : 0≤(x4_1:Int):=of_decide_eq_true (by assumption);have q101:x4_1 < (l0.length:Int):=of_decide_eq_true (by assumption);obtain⟨ad101,e101,hx101_0⟩:=Kd.at_int HR0.out x4_1 p101 q101
      cases e101
      replace p101:=eq_true p101;replace q101:=eq_true q101;go_wp2;go_roundg k1
      case measure=>have:=HK1.out;omega
      case rel=>exact⟨(wrap64 ((wrap64 (x3_1 * 256)) + (wrap64 (rd l0 x4_1)))),(wrap64 (x4_1 - 1)),(by first|rfl|(simp;done)|(simp[*];done)),(by first|rfl|(simp;done)|(simp[*];done)),H',⟨by have:=HK1.out;omega⟩,by repeat(first|exact Drawn0.refl _|apply Drawn0.step)⟩
     ·rw[if_neg c4] at H;exact absurd H (by simp)
    ·rw[if_neg c3] at H;exact absurd H (by simp)
   ·rw[if_neg c2] at H;have c2b0:decide (0≤x4_1)=false:=decide_eq_false c2;clear c2;obtain rfl:=Option.some.inj H;go_wp2;go_ret
    exact⟨by first|rfl|(simp;done)|(simp[*];done),by repeat(first|exact Drawn0.refl _|apply Drawn0.step)⟩
end Go.Proofs.YtkcdefnpbnbaeaaGreatDoor.Pr
namespace Go.Proofs.YtkcdefnpbnbaeaaGreatDoor.Pr
open Go.RowKit Go.Proofs.YtkcdefnpbnbaeaaGreatDoorW.PrintWords Go.Proofs.YtkcdefnpbnbaeaaGreatDoorW.PrintLast Go.Proofs.YtkcdefnpbnbaeaaGreatDoorW.PrintMore
attribute [local go_sem] max2_int min2_int max_two min_two max_three min_three max_four min_four
set_option linter.unusedVariables false
set_option linter.unusedSimpArgs false
def qxv.l0:Nat→Int→Int→Int→Int→Int→Option (Int)
 | 0,_,_,_,_,_=>none
 | k + 1,x0,x1,x2,x7,x8=>if x8 ≥ 0 then(if x2=0 then(none) else(if 0≤(IntKind.u64.wrap (x8)) then(if (Go.bits .and .i64 (shr .i64 x1 (IntKind.u64.wrap (x8))) 1)=1 then(qxv.l0 k x0 x1 x2 (Int.tmod (wrap64 ((Int.tmod (wrap64 (x7 * x7)) x2) * x0)) x2) (wrap64 (x8 - 1))) else(qxv.l0 k x0 x1 x2 (Int.tmod (wrap64 (x7 * x7)) x2) (wrap64 (x8 - 1)))) else(none))) else(some x7)
def qxv.f (k:Nat) (a0:Int) (a1:Int) (a2:Int):Option (Int):=qxv.l0 k a0 a1 a2 1 40
theorem qxv.calls (k:Nat) (a0:Int) (a1:Int) (a2:Int) (r:Int) (w:World) (h:qxv.f k a0 a1 a2=some r) :
  Calls Tryz.prog 40 #[.int .i64 a0,.int .i64 a1,.int .i64 a2] w fun e w'=>e=.returned (.int .i64 r)∧Drawn0 w w':=by
 have H:(qxv.l0 k a0 a1 a2 1 40)=some r:=h;clear h;have H':=U.mk H;clear H;go_enter Tryz.func40,Tryz.ntmps40;go_wp2
 go_loopg [7,8] k (fun kq v7 v8 w'=>∃ (x7_1:Int) (x8_1:Int),v7=.int .i64 x7_1∧v8=.int .i64 x8_1∧U (qxv.l0 kq a0 a1 a2 x7_1 x8_1=some r)∧U (kq≤k)∧Drawn0 w w')
 case atStart=>exact⟨(1),(40),(by first|rfl|(simp;done)|(simp[*];done)),(by first|rfl|(simp;done)|(simp[*];done)),H',⟨Nat.le_refl _⟩,by repeat(first|exact Drawn0.refl _|apply Drawn0.step)⟩
 case round =>
  clear H';try clear p2
  obtain⟨x7_1,x8_1,rfl,rfl,HA,HK1,⟨m1,rfl⟩⟩:=hrel
  cases gk with
  | zero=>exact absurd HA.out (by simp[qxv.l0])
  | succ k1 =>
   have H:=HA.out;clear HA;simp only[qxv.l0] at H
   by_cases c4:x8_1 ≥ 0
   ·rw[if_pos c4] at H;have c4b0:decide (0≤x8_1)=true:=decide_eq_true c4;clear c4
    by_cases c5:a2=0
    ·rw[if_pos c5] at H;exact absurd H (by simp)
    ·rw[if_neg c5] at H;have c5b0:(a2 == 0)=false:=beq_eq_false_iff_ne.mpr c5;have c5b1:(a2 != 0)=true:=bne_iff_ne.mpr c5;obtain⟨ji6,hji6⟩ : ∃ j_:Int,(IntKind.u64.wrap (x8_1))=j_:=⟨_,rfl⟩;replace H:(if 0≤(ji6) then(if (Go.bits .and .i64 (shr .i64 a1 (ji6)) 1)=1 then(qxv.l0 k1 a0 a1 a2 (Int.tmod (wrap64 ((Int.tmod (wrap64 (x7_1 * x7_1)) a2) * a0)) a2) (wrap64 (x8_1 - 1))) else(qxv.l0 k1 a0 a1 a2 (Int.tmod (wrap64 (x7_1 * x7_1)) a2) (wrap64 (x8_1 - 1)))) else(none))=some r:=by first|(rw[hji6] at H;exact H)|(simp only[hji6] at H ⊢;exact H)
     by_cases c7 : 0≤(ji6)
     ·rw[if_pos c7] at H;have c7b0:=eq_true c7;have c7b1:decide (0≤(ji6))=true:=decide_eq_true c7;clear c7;obtain⟨ji8,hji8⟩ : ∃ j_:Int,(shr .i64 a1 (ji6))=j_:=⟨_,rfl⟩;replace H:(if (Go.bits .and .i64 (ji8) 1)=1 then(qxv.l0 k1 a0 a1 a2 (Int.tmod (wrap64 ((Int.tmod (wrap64 (x7_1 * x7_1)) a2) * a0)) a2) (wrap64 (x8_1 - 1))) else(qxv.l0 k1 a0 a1 a2 (Int.tmod (wrap64 (x7_1 * x7_1)) a2) (wrap64 (x8_1 - 1))))=some r:=by first|(rw[hji8] at H;exact H)|(simp only[hji8] at H ⊢;exact H)
      have hji8_:(a1 / 2 ^ min (ji6).toNat 64)=ji8:=hji8;have hji8z:(ji6)≤64→(a1 / 2 ^ (ji6).toNat)=ji8:=shr_small hji8
      by_cases c9:(Go.bits .and .i64 (ji8) 1)=1
      ·rw[if_pos c9] at H;have c9b0:((Go.bits .and .i64 (ji8) 1) == 1)=true:=beq_iff_eq.mpr c9;have c9b1:((Go.bits .and .i64 (ji8) 1) != 1)=false:=bne_eq_false_iff_eq.mpr c9;clear c9;have H':=U.mk H;clear H;go_wp2;go_roundg k1
       case measure=>have:=HK1.out;omega
       case rel=>exact⟨(Int.tmod (wrap64 ((Int.tmod (wrap64 (x7_1 * x7_1)) a2) * a0)) a2),(wrap64 (x8_1 - 1)),(by first|rfl|(simp;done)|(simp[*];done)),(by first|rfl|(simp;done)|(simp[*];done)),H',⟨by have:=HK1.out;omega⟩,by repeat(first|exact Drawn0.refl _|apply Drawn0.step)⟩
      ·rw[if_neg c9] at H;have c9b0:((Go.bits .and .i64 (ji8) 1) == 1)=false:=beq_eq_false_iff_ne.mpr c9;have c9b1:((Go.bits .and .i64 (ji8) 1) != 1)=true:=bne_iff_ne.mpr c9;have H':=U.mk H;clear H;go_wp2;go_roundg k1
       case measure=>have:=HK1.out;omega
       case rel=>exact⟨(Int.tmod (wrap64 (x7_1 * x7_1)) a2),(wrap64 (x8_1 - 1)),(by first|rfl|(simp;done)|(simp[*];done)),(by first|rfl|(simp;done)|(simp[*];done)),H',⟨by have:=HK1.out;omega⟩,by repeat(first|exact Drawn0.refl _|apply Drawn0.step)⟩
     ·rw[if_neg c7] at H;exact absurd H (by simp)
   ·rw[if_neg c4] at H;have c4b0:decide (0≤x8_1)=false:=decide_eq_false c4;clear c4;obtain rfl:=Option.some.inj H;go_wp2;go_ret
    exact⟨by first|rfl|(simp;done)|(simp[*];done),by repeat(first|exact Drawn0.refl _|apply Drawn0.step)⟩
end Go.Proofs.YtkcdefnpbnbaeaaGreatDoor.Pr
namespace Go.Proofs.YtkcdefnpbnbaeaaGreatDoor.Pr
open Go.RowKit Go.Proofs.YtkcdefnpbnbaeaaGreatDoorW.PrintWords Go.Proofs.YtkcdefnpbnbaeaaGreatDoorW.PrintLast Go.Proofs.YtkcdefnpbnbaeaaGreatDoorW.PrintMore
attribute [local go_sem] max2_int min2_int max_two min_two max_three min_three max_four min_four
set_option linter.unusedVariables false
set_option linter.unusedSimpArgs false
def qwv.l0:Nat→Int→List Int→Int→Int→Option (List Int)
 | 0,_,_,_,_=>none
 | k + 1,x0,x3,x7,x8=>if x8 < x7 then(if 0≤x8 then(if x8 < (x3.length:Int) then(qwv.l0 k (wrap64 (Int.tdiv x0 256)) (x3.set (x8:Int).toNat ((Int.tmod x0 256) % 256)) x7 (wrap64 (x8 + 1))) else(none)) else(none)) else(some x3)
def qwv.f (k:Nat) (a0:Int):Option (List Int):=if 4≤281474976710656 then((some (List.replicate 4 0:List Int)).bind fun y101=>(qwv.l0 k a0 y101 (y101.length:Int) 0)) else(none)
theorem qwv.calls (k:Nat) (a0:Int) (r:List Int) (w:World) (h:qwv.f k a0=some r) :
  Calls Tryz.prog 18 #[.int .i64 a0] w fun e w'=>∃ v0_:Value,e=.returned (v0_)∧Kd.R (Kd.int .u8) 5 w' w.heap.size (fun _=>True) v0_ r∧Below w.heap.size w w':=by
 have HB:=U.mk (Below.refl w.heap.size w);unfold qwv.f at h;have H:=h;clear h
 by_cases c2 : 4≤281474976710656
 ·rw[if_pos c2] at H;have c2b0:=eq_true c2;have c2b1:decide (4≤281474976710656)=true:=decide_eq_true c2;clear c2;obtain⟨y101,hy101⟩ : ∃ y_:List Int,y_=(List.replicate 4 0):=⟨_,rfl⟩;replace H:(qwv.l0 k a0 y101 (y101.length:Int) 0)=some r:=by first|(rw[hy101];with_reducible exact H)|(have H2_:=(Option.bind_some _ _).symm.trans H;rw[hy101];with_reducible exact H2_)|(have H2_:=(Option.bind_some _ _).symm.trans H;with_reducible exact H2_)|with_reducible exact H|(rw[hy101];exact H)|exact H
  have Ny101:=U.mk hy101;clear hy101;have H':=U.mk H;clear H;go_enter Tryz.func18,Tryz.ntmps18;go_wp2_with (first|((with_reducible refine gate_dst (N:=5) rfl ?_);refine Kd.R_make (Kd.int .u8) _ 5 rfl (N:=5) rfl 44 _ _ rfl 4 rfl rfl Tryz.underlying44 (.int .u8 0) 1 info5 rfl (by decide) (by omega) 0 (ok:=fun _=>True) (okp:=fun _=>True) rfl (fun _ hk=>hk) trivial (by omega) (by omega) (Below.refl _ _) (Nat.le_refl _) ?_;intro v102 w3 ho4 hb hg_ hnew_;clear hg_ hnew_;(first|rw[← Ny101.out] at ho4|(simp only[Int.reduceToNat] at ho4;rw[← Ny101.out] at ho4));have HO103:=U.mk (Kd.R_lower ho4 (zq (by solve_by_elim only[HB.out,L,O,J])));replace HB:=U.mk (qx (by solve_by_elim only[HB.out,L,O,J]) hb);clear hb ho4;obtain⟨Ao5,co5,eo5⟩:=Kd.R_slice HO103.out;subst eo5))
  go_loopg [0,8] k (fun kq v0 v8 w'=>∃ (x0_1:Int) (x3_1:List Int) (x8_1:Int),v0=.int .i64 x0_1∧v8=.int .i64 x8_1∧U (qwv.l0 kq x0_1 x3_1 (y101.length:Int) x8_1=some r)∧U (kq≤k)∧U (Kd.R (Kd.int .u8) 5 w' w.heap.size (fun _=>True) (.slice Ao5 y101.length co5) x3_1)∧U (Below w.heap.size w w'))
  case atStart=>exact⟨(a0),(y101),(0),(by first|rfl|(simp;done)|(simp[*];done)),(by first|rfl|(simp;done)|(simp[*];done)),H',⟨Nat.le_refl _⟩,⟨by(with_reducible repeat(first|apply Kd.zj|apply Kd.zz|apply Kd.zk));exact HO103.out⟩,⟨by solve_by_elim only[HB.out,L,O,J]⟩⟩
  case round =>
   clear H';try clear c1
   try clear c2
   try clear c2b0
   try clear c2b1
   try clear p2
   obtain⟨x0_1,x3_1,x8_1,rfl,rfl,HA,HK1,HO_3,HB⟩:=hrel;have hl3_1:=(Kd.R_reads' HO_3.out).1;rw[hl3_1] at HO_3
   (try simp only[hl3_1])
   cases gk with
   | zero=>exact absurd HA.out (by simp[qwv.l0])
   | succ k1 =>
    have H:=HA.out;clear HA;simp only[qwv.l0] at H
    by_cases c6:x8_1 < (y101.length:Int)
    ·rw[if_pos c6] at H;have c6b0:decide (x8_1 < (y101.length:Int))=true:=decide_eq_true c6;clear c6
     by_cases c7 : 0≤x8_1
     ·rw[if_pos c7] at H;have c7b0:decide (0≤x8_1)=true:=decide_eq_true c7;clear c7
      by_cases c8:x8_1 < (x3_1.length:Int)
      ·rw[if_pos c8] at H;have c8b0:decide (x8_1 < (x3_1.length:Int))=true:=decide_eq_true c8;clear c8;obtain⟨y104,hy104⟩ : ∃ y_:List Int,y_=(x3_1.set (x8_1:Int).toNat ((Int.tmod x0_1 256) % 256)):=⟨_,rfl⟩;replace H:(qwv.l0 k1 (wrap64 (Int.tdiv x0_1 256)) y104 (y101.length:Int) (wrap64 (x8_1 + 1)))=some r:=by first|(rw[hy104];with_reducible exact H)|(have H2_:=(Option.bind_some _ _).symm.trans H;rw[hy104];with_reducible exact H2_)|(have H2_:=(Option.bind_some _ _).symm.trans H;with_reducible exact H2_)|with_reducible exact H|(rw[hy104];exact H)|exact H
       have Ny104:=U.mk hy104;clear hy104;have H':=U.mk H;clear H;have p9 : 0≤(x8_1:Int):=of_decide_eq_true (by assumption);have q9:(x8_1:Int) < ((x3_1.length:Int):Int):=of_decide_eq_true (by assumption);obtain⟨go9,co9,eo9,gb9,gl9,cl9,HG9⟩:=Kd.R_form HO_3.out (by omega)
       (first|cases eo9|(injection eo9 with ea_ en_ ec_;(first|subst ea_|(injection ea_ with ea_;subst ea_));subst ec_;clear en_))
       have GB9:=U.mk gb9;have GG9:=U.mk HG9;clear gb9 gl9 HG9;obtain⟨hx9_0,hf9_0⟩:=Kd.R_celln 0 HO_3.out (x8_1:Int) p9 q9;replace p9:=eq_true p9;replace q9:=eq_true q9;have HP10:=Kd.R_putg HO_3.out (x8_1:Int) ((Int.tmod x0_1 256) % 256);go_wp2_with (first|((with_reducible refine jq (t:=5) (p:=16) rfl ?_);refine jz (t:=5) (p:=16) (v:=?vo_w11) (w1:=(wr.setCell ⟨go9,(x8_1:Int).toNat,none⟩ (.int .u8 ((Int.tmod x0_1 256) % 256)))) ?hg ?ho ?hn ?hr ?_;(case ho=>rfl);(case hg=>rfl);(case hn=>rfl);(case hr=>first|(go_simp;done)|(go_simp;rfl));intro w11 hw;have hg:wr.grownBy w11 (some go9):=(by rw[hw];exact HP10.2);have hp_:Kd.R (Kd.int .u8) 5 w11 w.heap.size (fun _=>True) (.slice (some ⟨go9,0,none⟩) x3_1.length co5) y104:=(by rw[hw,Ny104.out];exact HP10.1);clear HP10;replace HO_3:=U.mk (hp_);replace HB:=U.mk ((by rw[hw];exact qz (HB.out) GB9.out:Below w.heap.size w w11));clear hg hw hp_))
       (try simp only[← hl3_1])
       go_roundg k1
       case measure=>have:=HK1.out;omega
       case rel=>exact⟨(wrap64 (Int.tdiv x0_1 256)),(y104),(wrap64 (x8_1 + 1)),(by first|rfl|(simp;done)|(simp[*];done)),(by first|rfl|(simp;done)|(simp[*];done)),H',⟨by have:=HK1.out;omega⟩,⟨by(try simp only[hl3_1]);(with_reducible repeat(first|apply Kd.zj|apply Kd.zz|apply Kd.zk));exact HO_3.out⟩,⟨by solve_by_elim only[HB.out,L,O,J]⟩⟩
      ·rw[if_neg c8] at H;exact absurd H (by simp)
     ·rw[if_neg c7] at H;exact absurd H (by simp)
    ·rw[if_neg c6] at H;have c6b0:decide (x8_1 < (y101.length:Int))=false:=decide_eq_false c6;rw[hl3_1] at c6b0;clear c6;obtain rfl:=Option.some.inj H;go_wp2;go_ret
     exact⟨_,by first|rfl|(simp[*,zw,zv] <;> rfl),by(with_reducible repeat(first|apply Kd.zj|apply Kd.zz|apply Kd.zk));exact HO_3.out,by solve_by_elim only[HB.out,L,O,J]⟩
 ·rw[if_neg c2] at H;exact absurd H (by simp)
def qxj.l0:Nat→List Int→Int→List Int→Int→Option (List Int)
 | 0,_,_,_,_=>none
 | k + 1,x0,x1,x4,x5=>if x5 < 4 then(if 0≤x5 then(if x5 < (x0.length:Int) then(if x5 < (x4.length:Int) then(if 0≤(Int.tmod (wrap64 (x5 + 1)) 4) then(if (Int.tmod (wrap64 (x5 + 1)) 4) < (x0.length:Int) then(qxj.l0 k (x0.set (x5:Int).toNat (Int.tmod (wrap64 ((wrap64 ((wrap64 ((wrap64 ((rd x0 x5) * (rd x4 x5))) + x1)) + 1)) + (rd x0 (Int.tmod (wrap64 (x5 + 1)) 4)))) 2147483579)) x1 x4 (wrap64 (x5 + 1))) else(none)) else(none)) else(none)) else(none)) else(none)) else(some x0)
def qxj.f (k:Nat) (l0:List Int) (a1:Int):Option (List Int):=qxj.l0 k l0 a1 (([1103515245,69069,1664525,22695477]:List Int)) 0
def qxj.T4:Bool × List (List Nat × List Nat):=(true,[([],[]),([],[]),([],[]),([],[]),([2,3],[2,3]),([4],[4]),([],[]),([],[]),([6,7],[6,7]),([8],[8]),([5,9],[5,9]),([],[]),([10,11],[10,11]),([12],[12]),([],[]),([],[]),([15],[15]),([16],[16]),([14,17],[14,17]),([18],[18]),([13,19],[13,19]),([20],[20]),([0,1,0,1,2,3,4,5,6,7,8,9,10,11,12,13,14,15,16,17,18,19,20,21],[0,1]),([22,21,0,1,2,3,4,5,6,7,8,9,10,11,12,13,14,15,16,17,18,19,20,21],[21,22])])
def qxj.B4:List Nat:=[0,0,0,0,12,28,0,0,192,448,1020,0,4092,8188,0,0,32768,98304,245760,507904,1048572,2097148,4194303,8388607]
theorem qxj.tab4:rtab .any (opsOf Tryz.f82 4)=qxj.T4:=by kernel_rfl
theorem qxj.bits4:waitsOk qxj.T4.2 qxj.B4=true:=by kernel_rfl
theorem qxj.calls (k:Nat) (P0_:Nat→Prop) (u9000_:Value) (l0:List Int) (a1:Int) (r:List Int) (w0 w:World) (hB:Below w0.heap.size w0 w) (ho0:Kd.R (Kd.int .i64) 3 w w0.heap.size P0_ u9000_ l0) (h:qxj.f k l0 a1=some r) :
  Calls Tryz.prog 82 #[u9000_,.int .i64 a1] w fun e w'=>e=.returned (.tuple #[])∧Kd.R (Kd.int .i64) 3 w' w0.heap.size (fun k_=>(P0_ k_∨w.heap.size≤k_)) u9000_ r∧Below w0.heap.size w0 w'∧jj w w' (fun k_=>P0_ k_):=by
 have HO0:=U.mk (show Kd.R (Kd.int .i64) 3 w w0.heap.size (fun k_=>(P0_ k_∨w.heap.size≤k_)) u9000_ l0 from Kd.R_mono ho0 (fun k_ hk=>(.inl hk)));have HK:=U.mk (jj.refl w (fun k_=>P0_ k_));have HW0:=U.mk hB.size;have HB:=U.mk hB;clear hB;have H:(qxj.l0 k l0 a1 (([1103515245,69069,1664525,22695477]:List Int)) 0)=some r:=h;clear h;obtain⟨y101,hy101⟩ : ∃ y_:List Int,y_=(([1103515245,69069,1664525,22695477]:List Int)):=⟨_,rfl⟩;replace H:(qxj.l0 k l0 a1 y101 0)=some r:=by first|(rw[hy101];with_reducible exact H)|(have H2_:=(Option.bind_some _ _).symm.trans H;rw[hy101];with_reducible exact H2_)|(have H2_:=(Option.bind_some _ _).symm.trans H;with_reducible exact H2_)|with_reducible exact H|(rw[hy101];exact H)|exact H
 have Ny101:=U.mk hy101;clear hy101;have H':=U.mk H;clear H;go_enter Tryz.func82,Tryz.ntmps82;go_wp2_with (first|((with_reducible refine gate_dst (N:=6) rfl ?_);refine Kd.R_lit (Kd.int .i64) _ 3 ?hg (N:=6) ?hd (xs:=([1103515245,69069,1664525,22695477]:List Int)) (inner:=[.int .i64 1103515245,.int .i64 69069,.int .i64 1664525,.int .i64 22695477]) (ok:=fun _=>True) (okp:=fun _=>True) ?hr ?hp (fun _ hk=>hk) trivial (Below.refl _ _) (Nat.le_refl _) (by simp) ?_;(case hd=>rfl);(case hg=>rfl);(case hr=>first|(go_simp;done)|(go_simp;rfl));(case hp=>exact(Reps.one (show Kd.M (Kd.int .i64) _ _ _ 1103515245 [.int .i64 1103515245] from rfl) (Reps.one (show Kd.M (Kd.int .i64) _ _ _ 69069 [.int .i64 69069] from rfl) (Reps.one (show Kd.M (Kd.int .i64) _ _ _ 1664525 [.int .i64 1664525] from rfl) (Reps.one (show Kd.M (Kd.int .i64) _ _ _ 22695477 [.int .i64 22695477] from rfl) (Reps.none _ _))))));intro v102 w3 ho4 hb hg_ hnew_;clear hg_ hnew_;(first|rw[← Ny101.out] at ho4|(simp only[Int.reduceToNat] at ho4;rw[← Ny101.out] at ho4));have HO103:=U.mk (Kd.R_lower (Kd.R_new' (Kd.R_newM (M:=fun k_=>(P0_ k_∨w.heap.size≤k_)) ho4 (by first|exact HK.out.1|exact(show jj w _ (fun k_=>P0_ k_) from by solve_by_elim only[HK.out,jj.alloc,jj.drewN,jj.drew]).1) (fun k_ h_=>.inr h_)) (Kd.R_lt (by solve_by_elim only[HO0.out,Kd.zj,Kd.zz,Kd.zk]))) (zq (by solve_by_elim only[HB.out,L,O,J])));replace HO0:=U.mk (Kd.R_elder' (by solve_by_elim only[HO0.out,Kd.zj,Kd.zz,Kd.zk]) (Kd.R_base ho4) hb);replace HK:=U.mk (jj.below (S:=(fun k_=>P0_ k_)) (by solve_by_elim only[HK.out,jj.alloc,jj.drewN,jj.drew]) hb);replace HB:=U.mk (qx (by solve_by_elim only[HB.out,L,O,J]) hb);clear hb ho4))
 go_loopg [5] k (fun kq v5 w'=>∃ (x0_1:List Int) (x5_1:Int),v5=.int .i64 x5_1∧U (qxj.l0 kq x0_1 a1 y101 x5_1=some r)∧U (kq≤k)∧U (Kd.R (Kd.int .i64) 3 w' w0.heap.size (fun k_=>(P0_ k_∨w.heap.size≤k_)∧some k_≠(v102:Value).ownBlock) u9000_ x0_1)∧U (Kd.R (Kd.int .i64) 3 w' w0.heap.size (fun k_=>(P0_ k_∨w.heap.size≤k_)∧some k_≠(u9000_:Value).ownBlock) v102 y101)∧U (jj w w' (fun k_=>P0_ k_))∧U (Below w0.heap.size w0 w'))
 case atStart=>exact⟨(l0),(0),(by first|rfl|(simp;done)|(simp[*];done)),H',⟨Nat.le_refl _⟩,⟨by(with_reducible repeat(first|apply Kd.zj|apply Kd.zz|apply Kd.zk));exact HO0.out⟩,⟨by(with_reducible repeat(first|apply Kd.zj|apply Kd.zz|apply Kd.zk));exact Kd.R_mono HO103.out (fun _ hk=>⟨hk.1.1,hk.2⟩)⟩,⟨by solve_by_elim only[HK.out,jj.alloc,jj.drewN,jj.drew]⟩,⟨by solve_by_elim only[HB.out,L,O,J]⟩⟩
 case round =>
  clear H';try clear p2
  obtain⟨x0_1,x5_1,rfl,HA,HK1,HO_0,HO_4,HK,HB⟩:=hrel
  cases gk with
  | zero=>exact absurd HA.out (by simp[qxj.l0])
  | succ k1 =>
   have H:=HA.out;clear HA;simp only[qxj.l0] at H
   by_cases c5:x5_1 < 4
   ·rw[if_pos c5] at H;have c5b0:decide (x5_1 < 4)=true:=decide_eq_true c5;clear c5
    by_cases c6 : 0≤x5_1
    ·rw[if_pos c6] at H;have c6b0:decide (0≤x5_1)=true:=decide_eq_true c6;clear c6
     by_cases c7:x5_1 < (x0_1.length:Int)
     ·rw[if_pos c7] at H;have c7b0:decide (x5_1 < (x0_1.length:Int))=true:=decide_eq_true c7;clear c7
      by_cases c8:x5_1 < (y101.length:Int)
      ·rw[if_pos c8] at H;have c8b0:decide (x5_1 < (y101.length:Int))=true:=decide_eq_true c8;clear c8;obtain⟨ji9,hji9⟩ : ∃ j_:Int,(Int.tmod (wrap64 (x5_1 + 1)) 4)=j_:=⟨_,rfl⟩;replace H:(if 0≤(ji9) then(if (ji9) < (x0_1.length:Int) then(qxj.l0 k1 (x0_1.set (x5_1:Int).toNat (Int.tmod (wrap64 ((wrap64 ((wrap64 ((wrap64 ((rd x0_1 x5_1) * (rd y101 x5_1))) + a1)) + 1)) + (rd x0_1 (ji9)))) 2147483579)) a1 y101 (wrap64 (x5_1 + 1))) else(none)) else(none))=some r:=by first|(rw[hji9] at H;exact H)|(simp only[hji9] at H ⊢;exact H)
       by_cases c10 : 0≤(ji9)
       ·rw[if_pos c10] at H;have c10b0:decide (0≤(ji9))=true:=decide_eq_true c10;clear c10
        by_cases c11:(ji9) < (x0_1.length:Int)
        ·rw[if_pos c11] at H;have c11b0:decide ((ji9) < (x0_1.length:Int))=true:=decide_eq_true c11;clear c11;obtain⟨y107,hy107⟩ : ∃ y_:List Int,y_=(x0_1.set (x5_1:Int).toNat (Int.tmod (wrap64 ((wrap64 ((wrap64 ((wrap64 ((rd x0_1 x5_1) * (rd y101 x5_1))) + a1)) + 1)) + (rd x0_1 (ji9)))) 2147483579)):=⟨_,rfl⟩;replace H:(qxj.l0 k1 y107 a1 y101 (wrap64 (x5_1 + 1)))=some r:=by first|(rw[hy107];with_reducible exact H)|(have H2_:=(Option.bind_some _ _).symm.trans H;rw[hy107];with_reducible exact H2_)|(have H2_:=(Option.bind_some _ _).symm.trans H;with_reducible exact H2_)|with_reducible exact H|(rw[hy107];exact H)|exact H
         have Ny107:=U.mk hy107;clear hy107;have H':=U.mk H;clear H;try go_wp2
         replace HO_0:=U.mk (Kd.zk HO_0.out);replace HO_4:=U.mk (Kd.zk HO_4.out);replace HK:=U.mk (jj.drew HK.out);replace HB:=U.mk (J HB.out);obtain⟨Ao14,co14,eo14⟩:=Kd.R_slice HO_0.out
         (first|subst eo14|(injection eo14 with f1_ f2_ f3_;have f4_:=f1_.symm;have f5_:=f3_.symm;clear f1_ f2_ f3_;subst f4_;subst f5_))
         have p104 : 0≤(x5_1:Int):=of_decide_eq_true (by assumption);have q104:x5_1 < (x0_1.length:Int):=of_decide_eq_true (by assumption);obtain⟨ad104,e104,hx104_0⟩:=Kd.at_int (Kd.R_reads' HO_0.out).2.2 x5_1 p104 q104
         cases e104
         replace p104:=eq_true p104;replace q104:=eq_true q104;obtain⟨Ao15,co15,eo15⟩:=Kd.R_slice HO_4.out
         (first|subst eo15|(injection eo15 with f1_ f2_ f3_;have f4_:=f1_.symm;have f5_:=f3_.symm;clear f1_ f2_ f3_;subst f4_;subst f5_))
         have p105 : 0≤(x5_1:Int):=of_decide_eq_true (by assumption);have q105:x5_1 < (y101.length:Int):=of_decide_eq_true (by assumption);obtain⟨ad105,e105,hx105_0⟩:=Kd.at_int (Kd.R_reads' HO_4.out).2.2 x5_1 p105 q105
         cases e105
         replace p105:=eq_true p105;replace q105:=eq_true q105;have p106 : 0≤((ji9):Int):=of_decide_eq_true (by assumption);have q106:(ji9) < (x0_1.length:Int):=of_decide_eq_true (by assumption);obtain⟨ad106,e106,hx106_0⟩:=Kd.at_int (Kd.R_reads' HO_0.out).2.2 (ji9) p106 q106;obtain rfl:ad104=ad106:=(by injection e106);replace p106:=eq_true p106;replace q106:=eq_true q106;have p12 : 0≤(x5_1:Int):=of_decide_eq_true (by assumption);have q12:(x5_1:Int) < ((x0_1.length:Int):Int):=of_decide_eq_true (by assumption);obtain⟨go12,co12,eo12,gb12,gl12,cl12,HG12⟩:=Kd.R_form HO_0.out (by omega)
         (first|cases eo12|(injection eo12 with ea_ en_ ec_;(first|subst ea_|(injection ea_ with ea_;subst ea_));subst ec_;clear en_))
         have GB12:=U.mk gb12;have GG12:=U.mk HG12;clear gb12 gl12 HG12;have HMgo12:=U.mk (show(P0_ go12∨w.heap.size≤go12) from(HO_0.out.1 _ rfl).1)
         (first|simp only[add_plain] at hx104_0|skip)
         (first|simp only[add_plain] at hx106_0|skip)
         obtain⟨hx12_0,hf12_0⟩:=Kd.R_celln 0 HO_0.out (x5_1:Int) p12 q12;replace p12:=eq_true p12;replace q12:=eq_true q12;have HP16:=Kd.R_putn HO_0.out (x5_1:Int) (Int.tmod (wrap64 ((wrap64 ((wrap64 ((wrap64 ((rd x0_1 x5_1) * (rd y101 x5_1))) + a1)) + 1)) + (rd x0_1 (ji9)))) 2147483579);rw[← Ny107.out] at HP16;have HQ16:=U.mk HP16;clear HP16;refine start_ (n:=24) (S:=fun w'=>w'.cell? ⟨go12,(x5_1).toNat,none⟩ = some (.int .i64 (rd x0_1 x5_1))∧w'.cell? (ad105.add (x5_1).toNat)=some (.int .i64 (rd y101 x5_1))∧w'.cell? ⟨go12,((ji9)).toNat,none⟩ = some (.int .i64 (rd x0_1 (ji9)))) (ds:=[23]) #[Y,Y,Y,Y,Y,Y,Y,Y,Y,Y,Y,Y,Y,Y,Y,Y,Y,Y,Y,Y,Y,Y,Y,Y] (by kernel_rfl) rfl rfl ⟨hx104_0,hx105_0,hx106_0⟩ (fun hHeld=>?_);refine with_tabW qxj.tab4 qxj.bits4 (fun HT_ HW_=>?_)
         generalize wr.drew=w13 at HO_0 HO_4 HK HB GG12 HQ16 hf12_0 hx104_0 hx105_0 hx106_0 hx12_0 hHeld ⊢;refine pure_ (i:=0) (N:=some 11) (v:=?_) (a':=?_) #[Z,Y,Y,Y,Y,Y,Y,Y,Y,Y,Y,Y,Y,Y,Y,Y,Y,Y,Y,Y,Y,Y,Y,Y] rfl rfl (any_of HT_.out (by kernel_rfl)) (fun _ _ _ h=>h) (Or.inl ⟨by rfl,?_⟩) ?_ ?_;rotate_left
         ·intro w'
          go_simp
          with_reducible rfl
         rotate_left
         ·simp only[Act.put,jq5,jq6,jq7,i64_w,i32_w]
          rfl
         refine pure_ (i:=1) (N:=some 12) (v:=?_) (a':=?_) #[Z,Z,Y,Y,Y,Y,Y,Y,Y,Y,Y,Y,Y,Y,Y,Y,Y,Y,Y,Y,Y,Y,Y,Y] rfl rfl (any_of HT_.out (by kernel_rfl)) (fun _ _ _ h=>h) (Or.inl ⟨by rfl,?_⟩) ?_ ?_;rotate_left
         ·intro w'
          go_simp
          with_reducible rfl
         rotate_left
         ·simp only[Act.put,jq5,jq6,jq7,i64_w,i32_w]
          rfl
         refine pure_ (i:=2) (N:=some 13) (v:=?_) (a':=?_) #[Z,Z,Z,Y,Y,Y,Y,Y,Y,Y,Y,Y,Y,Y,Y,Y,Y,Y,Y,Y,Y,Y,Y,Y] rfl rfl (any_of HT_.out (by kernel_rfl)) (fun _ _ _ h=>h) (Or.inl ⟨by rfl,?_⟩) ?_ ?_;rotate_left
         ·intro w'
          go_simp
          with_reducible rfl
         rotate_left
         ·simp only[Act.put,jq5,jq6,jq7,i64_w,i32_w]
          rfl
         refine pure_ (i:=3) (N:=some 14) (v:=?_) (a':=?_) #[Z,Z,Z,Z,Y,Y,Y,Y,Y,Y,Y,Y,Y,Y,Y,Y,Y,Y,Y,Y,Y,Y,Y,Y] rfl rfl (any_of HT_.out (by kernel_rfl)) (fun _ _ _ h=>h) (Or.inl ⟨by rfl,?_⟩) ?_ ?_;rotate_left
         ·intro w'
          go_simp
          with_reducible rfl
         rotate_left
         ·simp only[Act.put,jq5,jq6,jq7,i64_w,i32_w]
          rfl
         refine pure_ (i:=4) (N:=some 15) (v:=?_) (a':=?_) #[Z,Z,Z,Z,Z,Y,Y,Y,Y,Y,Y,Y,Y,Y,Y,Y,Y,Y,Y,Y,Y,Y,Y,Y] rfl rfl (any_of HT_.out (by kernel_rfl)) (fun _ _ _ h=>h) (Or.inl ⟨by rfl,?_⟩) ?_ ?_;rotate_left
         ·intro w'
          go_simp
          with_reducible rfl
         rotate_left
         ·simp only[Act.put,jq5,jq6,jq7,i64_w,i32_w]
          rfl
         refine pure_ (i:=6) (N:=some 17) (v:=?_) (a':=?_) #[Z,Z,Z,Z,Z,Y,Z,Y,Y,Y,Y,Y,Y,Y,Y,Y,Y,Y,Y,Y,Y,Y,Y,Y] rfl rfl (any_of HT_.out (by kernel_rfl)) (fun _ _ _ h=>h) (Or.inl ⟨by rfl,?_⟩) ?_ ?_;rotate_left
         ·intro w'
          go_simp
          with_reducible rfl
         rotate_left
         ·simp only[Act.put,jq5,jq6,jq7,i64_w,i32_w]
          rfl
         refine pure_ (i:=7) (N:=some 18) (v:=?_) (a':=?_) #[Z,Z,Z,Z,Z,Y,Z,Z,Y,Y,Y,Y,Y,Y,Y,Y,Y,Y,Y,Y,Y,Y,Y,Y] rfl rfl (any_of HT_.out (by kernel_rfl)) (fun _ _ _ h=>h) (Or.inl ⟨by rfl,?_⟩) ?_ ?_;rotate_left
         ·intro w'
          go_simp
          with_reducible rfl
         rotate_left
         ·simp only[Act.put,jq5,jq6,jq7,i64_w,i32_w]
          rfl
         refine pure_ (i:=8) (N:=some 19) (v:=?_) (a':=?_) #[Z,Z,Z,Z,Z,Y,Z,Z,Z,Y,Y,Y,Y,Y,Y,Y,Y,Y,Y,Y,Y,Y,Y,Y] rfl rfl (any_of HT_.out (by kernel_rfl)) (fun _ _ _ h=>h) (Or.inl ⟨by rfl,?_⟩) ?_ ?_;rotate_left
         ·intro w'
          go_simp
          with_reducible rfl
         rotate_left
         ·simp only[Act.put,jq5,jq6,jq7,i64_w,i32_w]
          rfl
         refine pure_ (i:=11) (N:=some 22) (v:=?_) (a':=?_) #[Z,Z,Z,Z,Z,Y,Z,Z,Z,Y,Y,Z,Y,Y,Y,Y,Y,Y,Y,Y,Y,Y,Y,Y] rfl rfl (any_of HT_.out (by kernel_rfl)) (fun _ _ _ h=>h) (Or.inl ⟨by rfl,?_⟩) ?_ ?_;rotate_left
         ·intro w'
          go_simp
          with_reducible rfl
         rotate_left
         ·simp only[Act.put,jq5,jq6,jq7,i64_w,i32_w]
          rfl
         refine pure_ (i:=14) (N:=some 25) (v:=?_) (a':=?_) #[Z,Z,Z,Z,Z,Y,Z,Z,Z,Y,Y,Z,Y,Y,Z,Y,Y,Y,Y,Y,Y,Y,Y,Y] rfl rfl (any_of HT_.out (by kernel_rfl)) (fun _ _ _ h=>h) (Or.inl ⟨by rfl,?_⟩) ?_ ?_;rotate_left
         ·intro w'
          go_simp
          with_reducible rfl
         rotate_left
         ·simp only[Act.put,jq5,jq6,jq7,i64_w,i32_w]
          rfl
         refine pure_ (i:=15) (N:=some 26) (v:=?_) (a':=?_) #[Z,Z,Z,Z,Z,Y,Z,Z,Z,Y,Y,Z,Y,Y,Z,Z,Y,Y,Y,Y,Y,Y,Y,Y] rfl rfl (any_of HT_.out (by kernel_rfl)) (fun _ _ _ h=>h) (Or.inl ⟨by rfl,?_⟩) ?_ ?_;rotate_left
         ·intro w'
          go_simp
          with_reducible rfl
         rotate_left
         ·simp only[Act.put,jq5,jq6,jq7,i64_w,i32_w]
          rfl
         refine pure_ (i:=16) (N:=some 27) (v:=?_) (a':=?_) #[Z,Z,Z,Z,Z,Y,Z,Z,Z,Y,Y,Z,Y,Y,Z,Z,Z,Y,Y,Y,Y,Y,Y,Y] rfl rfl (any_of HT_.out (by kernel_rfl)) (fun _ _ _ h=>h) (Or.inl ⟨by rfl,?_⟩) ?_ ?_;rotate_left
         ·intro w'
          go_simp
          with_reducible rfl
         rotate_left
         ·simp only[Act.put,jq5,jq6,jq7,i64_w,i32_w]
          rfl
         refine pure_ (i:=17) (N:=some 28) (v:=?_) (a':=?_) #[Z,Z,Z,Z,Z,Y,Z,Z,Z,Y,Y,Z,Y,Y,Z,Z,Z,Z,Y,Y,Y,Y,Y,Y] rfl rfl (any_of HT_.out (by kernel_rfl)) (fun _ _ _ h=>h) (Or.inl ⟨by rfl,?_⟩) ?_ ?_;rotate_left
         ·intro w'
          go_simp
          with_reducible rfl
         rotate_left
         ·simp only[Act.put,jq5,jq6,jq7,i64_w,i32_w]
          rfl
         refine pure_ (i:=18) (N:=some 29) (v:=?_) (a':=?_) #[Z,Z,Z,Z,Z,Y,Z,Z,Z,Y,Y,Z,Y,Y,Z,Z,Z,Z,Z,Y,Y,Y,Y,Y] rfl rfl (any_of HT_.out (by kernel_rfl)) (fun _ _ _ h=>h) (Or.inl ⟨by rfl,?_⟩) ?_ ?_;rotate_left
         ·intro w'
          go_simp
          with_reducible rfl
         rotate_left
         ·simp only[Act.put,jq5,jq6,jq7,i64_w,i32_w]
          rfl
         refine take_ (i:=5) (N:=some 16) (v:=?_) (a':=?_) #[Z,Z,Z,Z,Z,Z,Z,Z,Z,Y,Y,Z,Y,Y,Z,Z,Z,Z,Z,Y,Y,Y,Y,Y] rfl rfl (take_ofW HT_.out HW_.out (by kernel_rfl)) (fun _ _ _ h=>h) (Or.inl ⟨by rfl,?_⟩) hHeld ?_ ?_;rotate_left
         ·rintro w' ⟨s0,s1,s2⟩
          go_simp
          with_reducible rfl
         rotate_left
         ·simp only[Act.put,jq5,jq6,jq7,i64_w,i32_w]
          rfl
         refine take_ (i:=9) (N:=some 20) (v:=?_) (a':=?_) #[Z,Z,Z,Z,Z,Z,Z,Z,Z,Z,Y,Z,Y,Y,Z,Z,Z,Z,Z,Y,Y,Y,Y,Y] rfl rfl (take_ofW HT_.out HW_.out (by kernel_rfl)) (fun _ _ _ h=>h) (Or.inl ⟨by rfl,?_⟩) hHeld ?_ ?_;rotate_left
         ·rintro w' ⟨s0,s1,s2⟩
          go_simp
          with_reducible rfl
         rotate_left
         ·simp only[Act.put,jq5,jq6,jq7,i64_w,i32_w]
          rfl
         refine pure_ (i:=10) (N:=some 21) (v:=?_) (a':=?_) #[Z,Z,Z,Z,Z,Z,Z,Z,Z,Z,Z,Z,Y,Y,Z,Z,Z,Z,Z,Y,Y,Y,Y,Y] rfl rfl (any_of HT_.out (by kernel_rfl)) (fun _ _ _ h=>h) (Or.inl ⟨by rfl,?_⟩) ?_ ?_;rotate_left
         ·intro w'
          go_simp
          with_reducible rfl
         rotate_left
         ·simp only[Act.put,jq5,jq6,jq7,i64_w,i32_w]
          rfl
         refine pure_ (i:=12) (N:=some 23) (v:=?_) (a':=?_) #[Z,Z,Z,Z,Z,Z,Z,Z,Z,Z,Z,Z,Z,Y,Z,Z,Z,Z,Z,Y,Y,Y,Y,Y] rfl rfl (any_of HT_.out (by kernel_rfl)) (fun _ _ _ h=>h) (Or.inl ⟨by rfl,?_⟩) ?_ ?_;rotate_left
         ·intro w'
          go_simp
          with_reducible rfl
         rotate_left
         ·simp only[Act.put,jq5,jq6,jq7,i64_w,i32_w]
          rfl
         refine pure_ (i:=13) (N:=some 24) (v:=?_) (a':=?_) #[Z,Z,Z,Z,Z,Z,Z,Z,Z,Z,Z,Z,Z,Z,Z,Z,Z,Z,Z,Y,Y,Y,Y,Y] rfl rfl (any_of HT_.out (by kernel_rfl)) (fun _ _ _ h=>h) (Or.inl ⟨by rfl,?_⟩) ?_ ?_;rotate_left
         ·intro w'
          go_simp
          with_reducible rfl
         rotate_left
         ·simp only[Act.put,jq5,jq6,jq7,i64_w,i32_w]
          rfl
         refine take_ (i:=19) (N:=some 30) (v:=?_) (a':=?_) #[Z,Z,Z,Z,Z,Z,Z,Z,Z,Z,Z,Z,Z,Z,Z,Z,Z,Z,Z,Z,Y,Y,Y,Y] rfl rfl (take_ofW HT_.out HW_.out (by kernel_rfl)) (fun _ _ _ h=>h) (Or.inl ⟨by rfl,?_⟩) hHeld ?_ ?_;rotate_left
         ·rintro w' ⟨s0,s1,s2⟩
          go_simp
          with_reducible rfl
         rotate_left
         ·simp only[Act.put,jq5,jq6,jq7,i64_w,i32_w]
          rfl
         refine pure_ (i:=20) (N:=some 31) (v:=?_) (a':=?_) #[Z,Z,Z,Z,Z,Z,Z,Z,Z,Z,Z,Z,Z,Z,Z,Z,Z,Z,Z,Z,Z,Y,Y,Y] rfl rfl (any_of HT_.out (by kernel_rfl)) (fun _ _ _ h=>h) (Or.inl ⟨by rfl,?_⟩) ?_ ?_;rotate_left
         ·intro w'
          go_simp
          with_reducible rfl
         rotate_left
         ·simp only[Act.put,jq5,jq6,jq7,i64_w,i32_w]
          rfl
         refine pure_ (i:=21) (N:=some 32) (v:=?_) (a':=?_) #[Z,Z,Z,Z,Z,Z,Z,Z,Z,Z,Z,Z,Z,Z,Z,Z,Z,Z,Z,Z,Z,Z,Y,Y] rfl rfl (any_of HT_.out (by kernel_rfl)) (fun _ _ _ h=>h) (Or.inl ⟨by rfl,?_⟩) ?_ ?_;rotate_left
         ·intro w'
          go_simp
          with_reducible rfl
         rotate_left
         ·simp only[Act.put,jq5,jq6,jq7,i64_w,i32_w]
          rfl
         refine pure_ (i:=22) (N:=some 33) (v:=?_) (a':=?_) #[Z,Z,Z,Z,Z,Z,Z,Z,Z,Z,Z,Z,Z,Z,Z,Z,Z,Z,Z,Z,Z,Z,Z,Y] rfl rfl (any_of HT_.out (by kernel_rfl)) (fun _ _ _ h=>h) (Or.inl ⟨by rfl,?_⟩) ?_ ?_;rotate_left
         ·intro w'
          go_simp
          with_reducible rfl
         rotate_left
         ·simp only[Act.put,jq5,jq6,jq7,i64_w,i32_w]
          rfl
         refine last_ (i:=23) (N:=none) #[Z,Z,Z,Z,Z,Z,Z,Z,Z,Z,Z,Z,Z,Z,Z,Z,Z,Z,Z,Z,Z,Z,Z,Z] rfl rfl (one_of HT_.out (by kernel_rfl)) (by decide) (fun K hK=>?_);refine skip_ (w1:=?_) (by rfl) rfl ?_ ?_;rotate_left
         ·go_simp
          rfl
         refine hK.out _ _ ?_;clear hK K;refine done_ (done_of HT_.out (by kernel_rfl)) ?_;try go_wp2
         go_roundg k1
         case measure=>have:=HK1.out;omega
         case rel=>exact⟨(y107),(wrap64 (x5_1 + 1)),(by first|rfl|(simp;done)|(simp[*];done)),H',⟨by have:=HK1.out;omega⟩,⟨by(with_reducible repeat(first|apply Kd.zj|apply Kd.zz|apply Kd.zk));exact HQ16.out⟩,⟨by(with_reducible repeat(first|apply Kd.zj|apply Kd.zz|apply Kd.zk));exact Kd.R_mono (Kd.R_far (p:=⟨go12,(x5_1:Int).toNat,none⟩) (Kd.R_mono HO_4.out (fun k_ hk=>(⟨hk,fun e_=>hk.2 (by rw[e_];rfl)⟩ : _∧k_≠go12))) (fun _ hk=>hk.2) (.int .i64 (Int.tmod (wrap64 ((wrap64 ((wrap64 ((wrap64 ((rd x0_1 x5_1) * (rd y101 x5_1))) + a1)) + 1)) + (rd x0_1 (ji9)))) 2147483579))) (fun _ hk=>⟨hk.1.1,hk.1.2⟩)⟩,⟨by solve_by_elim (maxDepth:=20) only[HK.out,jj.alloc,jj.drewN,jj.drew,jj.setCell,HMgo12.out]⟩,⟨by solve_by_elim (maxDepth:=20) only[HB.out,L,O,J,qz,GB12.out]⟩⟩
        ·rw[if_neg c11] at H;exact absurd H (by simp)
       ·rw[if_neg c10] at H;exact absurd H (by simp)
      ·rw[if_neg c8] at H;exact absurd H (by simp)
     ·rw[if_neg c7] at H;exact absurd H (by simp)
    ·rw[if_neg c6] at H;exact absurd H (by simp)
   ·rw[if_neg c5] at H;have c5b0:decide (x5_1 < 4)=false:=decide_eq_false c5;clear c5;obtain rfl:=Option.some.inj H;go_wp2
    first|go_end0|((try simp only[Exit.inBlock,Exit.then]);refine bodyPost_ret (results_none rfl _ _ _) rfl ?_)
    exact⟨by first|rfl|(simp[*,zw,zv] <;> rfl),by(with_reducible repeat(first|apply Kd.zj|apply Kd.zz|apply Kd.zk));exact Kd.R_mono HO_0.out (fun _ hk=>hk.1),by solve_by_elim only[HB.out,L,O,J],by solve_by_elim only[HK.out,jj.alloc,jj.drewN,jj.drew]⟩
mutual
def qww.l0:Nat→List Int→List Int→List Int→Int→Int→Option (List Int)
 | 0,_,_,_,_,_=>none
 | k + 1,x0,x3,x13,x14,x15=>if x15 < x14 then(if 0≤x15 then(if x15 < (x13.length:Int) then((qxj.f k x3 (wrap64 (rd x13 x15))).bind fun t105=>(qww.l0 k x0 t105 x13 x14 (wrap64 (x15 + 1)))) else(none)) else(none)) else((qwv.f k (x0.length:Int)).bind fun t106=>(qww.l1 k x3 t106 (t106.length:Int) 0))
def qww.l1:Nat→List Int→List Int→Int→Int→Option (List Int)
 | 0,_,_,_,_=>none
 | k + 1,x3,x26,x27,x28=>if x28 < x27 then(if 0≤x28 then(if x28 < (x26.length:Int) then((qxj.f k x3 (wrap64 (rd x26 x28))).bind fun t110=>(qww.l1 k t110 x26 x27 (wrap64 (x28 + 1)))) else(none)) else(none)) else(qww.l2 k x3 0)
def qww.l2:Nat→List Int→Int→Option (List Int)
 | 0,_,_=>none
 | k + 1,x3,x8=>if x8 < 8 then((qxj.f k x3 0).bind fun t111=>(qww.l2 k t111 (wrap64 (x8 + 1)))) else(qww.l3 k ([]:List Int) x3 (x3.length:Int) 0)
def qww.l3:Nat→List Int→List Int→Int→Int→Option (List Int)
 | 0,_,_,_,_=>none
 | k + 1,x9,x43,x44,x45=>if x45 < x44 then(if 0≤x45 then(if x45 < (x43.length:Int) then((qwv.f k (rd x43 x45)).bind fun t113=>(if x9.length + t113.length < 140737488355328 then(qww.l3 k (x9 ++ t113) x43 x44 (wrap64 (x45 + 1))) else(none))) else(none)) else(none)) else(some x9)
end
def qww.f (k:Nat) (l0:List Int):Option (List Int):=qww.l0 k l0 (([11,22,33,44]:List Int)) l0 (l0.length:Int) 0
theorem qww.calls (k:Nat) (A0:Option Addr) (c0:Nat) (l0:List Int) (r:List Int) (w:World) (hr0:Kd.C (Kd.int .u8) w A0 l0.length l0) (hc0:l0.length≤c0) (h:qww.f k l0=some r) :
  Calls Tryz.prog 61 #[.slice A0 l0.length c0] w fun e w'=>∃ v0_:Value,e=.returned (v0_)∧Kd.R (Kd.int .u8) 5 w' w.heap.size (fun _=>True) v0_ r∧Below w.heap.size w w':=by
 have HR0:=U.mk hr0;have HC0:=U.mk hc0;clear hr0 hc0;have HB:=U.mk (Below.refl w.heap.size w);have H:(qww.l0 k l0 (([11,22,33,44]:List Int)) l0 (l0.length:Int) 0)=some r:=h;clear h;obtain⟨y101,hy101⟩ : ∃ y_:List Int,y_=(([11,22,33,44]:List Int)):=⟨_,rfl⟩;replace H:(qww.l0 k l0 y101 l0 (l0.length:Int) 0)=some r:=by first|(rw[hy101];with_reducible exact H)|(have H2_:=(Option.bind_some _ _).symm.trans H;rw[hy101];with_reducible exact H2_)|(have H2_:=(Option.bind_some _ _).symm.trans H;with_reducible exact H2_)|with_reducible exact H|(rw[hy101];exact H)|exact H
 have Ny101:=U.mk hy101;clear hy101;have H':=U.mk H;clear H;go_enter Tryz.func61,Tryz.ntmps61;go_wp2_with (first|((with_reducible refine gate_dst (N:=12) rfl ?_);refine Kd.R_lit (Kd.int .i64) _ 3 ?hg (N:=12) ?hd (xs:=([11,22,33,44]:List Int)) (inner:=[.int .i64 11,.int .i64 22,.int .i64 33,.int .i64 44]) (ok:=fun _=>True) (okp:=fun _=>True) ?hr ?hp (fun _ hk=>hk) trivial (Below.refl _ _) (Nat.le_refl _) (by simp) ?_;(case hd=>rfl);(case hg=>rfl);(case hr=>first|(go_simp;done)|(go_simp;rfl));(case hp=>exact(Reps.one (show Kd.M (Kd.int .i64) _ _ _ 11 [.int .i64 11] from rfl) (Reps.one (show Kd.M (Kd.int .i64) _ _ _ 22 [.int .i64 22] from rfl) (Reps.one (show Kd.M (Kd.int .i64) _ _ _ 33 [.int .i64 33] from rfl) (Reps.one (show Kd.M (Kd.int .i64) _ _ _ 44 [.int .i64 44] from rfl) (Reps.none _ _))))));intro v102 w2 ho3 hb hg_ hnew_;clear hg_ hnew_;(first|rw[← Ny101.out] at ho3|(simp only[Int.reduceToNat] at ho3;rw[← Ny101.out] at ho3));have HO103:=U.mk (Kd.R_lower ho3 (zq (by solve_by_elim only[HB.out,L,O,J])));replace HB:=U.mk (qx (by solve_by_elim only[HB.out,L,O,J]) hb);clear hb ho3))
 go_loopg [15] k (fun kq v15 w'=>∃ (x3_1:List Int) (x15_1:Int),v15=.int .i64 x15_1∧U (qww.l0 kq l0 x3_1 l0 (l0.length:Int) x15_1=some r)∧U (kq≤k)∧U (Kd.R (Kd.int .i64) 3 w' w.heap.size (fun _=>True) v102 x3_1)∧U (Below w.heap.size w w'))
 case atStart=>exact⟨(y101),(0),(by first|rfl|(simp;done)|(simp[*];done)),H',⟨Nat.le_refl _⟩,⟨by(with_reducible repeat(first|apply Kd.zj|apply Kd.zz|apply Kd.zk));exact HO103.out⟩,⟨by solve_by_elim only[HB.out,L,O,J]⟩⟩
 case round =>
  clear H';try clear p2
  obtain⟨x3_1,x15_1,rfl,HA,HK1,HO_3,HB⟩:=hrel
  cases gk with
  | zero=>exact absurd HA.out (by simp[qww.l0])
  | succ k1 =>
   have H:=HA.out;clear HA;simp only[qww.l0] at H
   by_cases c4:x15_1 < (l0.length:Int)
   ·rw[if_pos c4] at H;have c4b0:decide (x15_1 < (l0.length:Int))=true:=decide_eq_true c4;clear c4
    by_cases c5 : 0≤x15_1
    ·rw[if_pos c5] at H;have c5b0:decide (0≤x15_1)=true:=decide_eq_true c5;clear c5
     by_cases c6:x15_1 < (l0.length:Int)
     ·rw[if_pos c6] at H;have c6b0:decide (x15_1 < (l0.length:Int))=true:=decide_eq_true c6;clear c6;replace H:=jq8.mp H;obtain⟨t105,A70,H⟩:=H;try dsimp only at H
      have A7:=U.mk A70;clear A70;have H':=U.mk H;clear H;have p104 : 0≤(x15_1:Int):=of_decide_eq_true (by assumption);have q104:x15_1 < (l0.length:Int):=of_decide_eq_true (by assumption);obtain⟨ad104,e104,hx104_0⟩:=Kd.at_int HR0.out x15_1 p104 q104
      cases e104
      replace hx104_0:=(HB.out.cell (World.block_lt_of_cell? w _ hx104_0)).trans hx104_0;replace p104:=eq_true p104;replace q104:=eq_true q104;obtain⟨Ao8,co8,eo8⟩:=Kd.R_slice HO_3.out;subst eo8;go_wp2_with (first|((with_reducible refine zx (f:=82) rfl ?_);refine goesL_ (some 22) rfl rfl Tryz.func82 (by kernel_rfl) rfl #[.slice Ao8 x3_1.length co8,.int .i64 (wrap64 (rd l0 x15_1))] rfl (by(try simp only[jq0,jq1,jq2]);first|done|rfl|(simp only[jq3,jq4];rfl)) ?_;(with_reducible refine(qxj.calls k1 (fun k_=>some k_=(.slice Ao8 x3_1.length co8:Value).ownBlock) (.slice Ao8 x3_1.length co8) x3_1 (wrap64 (rd l0 x15_1)) t105 w _ ?side1 ?side2 A7.out).mono ?_);(case side1=>repeat(first|(with_reducible first|exact HB.out|apply L|apply O|apply J)|exact HB.out));(case side2=>exact Kd.R_tight rfl HO_3.out);rintro e w9 ⟨rfl,hy0,hb,hkp⟩;refine⟨_,rfl,?_⟩;replace HO_3:=U.mk (Kd.R_reok rfl hy0 (fun k_ e_=>HO_3.out.1 k_ e_));replace HB:=U.mk (hb);(try clear hb hkp hy0)))
      go_roundg k1
      case measure=>have:=HK1.out;omega
      case rel=>exact⟨(t105),(wrap64 (x15_1 + 1)),(by first|rfl|(simp;done)|(simp[*];done)),H',⟨by have:=HK1.out;omega⟩,⟨by(with_reducible repeat(first|apply Kd.zj|apply Kd.zz|apply Kd.zk));exact HO_3.out⟩,⟨by solve_by_elim only[HB.out,L,O,J]⟩⟩
     ·rw[if_neg c6] at H;exact absurd H (by simp)
    ·rw[if_neg c5] at H;exact absurd H (by simp)
   ·rw[if_neg c4] at H;have c4b0:decide (x15_1 < (l0.length:Int))=false:=decide_eq_false c4;clear c4;replace H:=jq8.mp H;obtain⟨t106,A100,H⟩:=H;try dsimp only at H
    have A10:=U.mk A100;clear A100;have H':=U.mk H;clear H;go_wp2_with (first|((with_reducible refine zx (f:=18) rfl ?_);refine goesL_ (some 26) rfl rfl Tryz.func18 (by kernel_rfl) rfl #[.int .i64 (l0.length:Int)] rfl (by(try simp only[jq0,jq1,jq2]);first|done|rfl|(simp only[jq3,jq4];rfl)) ?_;(with_reducible refine(qwv.calls k1 (l0.length:Int) t106 _ A10.out).mono ?_);rintro e w11 ⟨v107,rfl,ho0,hb⟩;refine⟨_,rfl,?_⟩;replace HO_3:=U.mk (Kd.R_below (by solve_by_elim only[HO_3.out,Kd.zj,Kd.zz,Kd.zk]) hb);have HO108:=U.mk (Kd.R_lower ho0 (zq (by solve_by_elim only[HB.out,L,O,J])));replace HB:=U.mk (qx (by solve_by_elim only[HB.out,L,O,J]) hb);(try clear hb ho0);obtain⟨Ao12,co12,eo12⟩:=Kd.R_slice HO108.out;subst eo12))
    go_loopg [28] k1 (fun kq v28 w'=>∃ (x3_2:List Int) (x28_2:Int),v28=.int .i64 x28_2∧U (qww.l1 kq x3_2 t106 (t106.length:Int) x28_2=some r)∧U (kq≤k1)∧U (Kd.R (Kd.int .i64) 3 w' w.heap.size (fun _=>True) v102 x3_2)∧U (Kd.R (Kd.int .u8) 5 w' w.heap.size (fun _=>True) (.slice Ao12 t106.length co12) t106)∧U (Below w.heap.size w w'))
    case atStart=>exact⟨(x3_1),(0),(by first|rfl|(simp;done)|(simp[*];done)),H',⟨Nat.le_refl _⟩,⟨by(with_reducible repeat(first|apply Kd.zj|apply Kd.zz|apply Kd.zk));exact HO_3.out⟩,⟨by(with_reducible repeat(first|apply Kd.zj|apply Kd.zz|apply Kd.zk));exact HO108.out⟩,⟨by solve_by_elim only[HB.out,L,O,J]⟩⟩
    case round =>
     clear H';try clear c1
     try clear p1
     try clear q1
     try clear hx1
     try clear p2 p2
     try clear c4
     try clear c4b0
     try clear c5
     try clear c5b0
     try clear c6
     try clear c6b0
     try clear p6
     try clear c8
     try clear p10
     try clear q10
     try clear hx10
     try clear hx104_0
     try clear p104
     try clear q104
     obtain⟨x3_2,x28_2,rfl,HA,HK2,HO_3,HO_26,HB⟩:=hrel
     cases gk with
     | zero=>exact absurd HA.out (by simp[qww.l1])
     | succ k2 =>
      have H:=HA.out;clear HA;simp only[qww.l1] at H
      by_cases c13:x28_2 < (t106.length:Int)
      ·rw[if_pos c13] at H;have c13b0:decide (x28_2 < (t106.length:Int))=true:=decide_eq_true c13;clear c13
       by_cases c14 : 0≤x28_2
       ·rw[if_pos c14] at H;have c14b0:decide (0≤x28_2)=true:=decide_eq_true c14;clear c14
        by_cases c15:x28_2 < (t106.length:Int)
        ·rw[if_pos c15] at H;have c15b0:decide (x28_2 < (t106.length:Int))=true:=decide_eq_true c15;clear c15;replace H:=jq8.mp H;obtain⟨t110,A160,H⟩:=H;try dsimp only at H
         have A16:=U.mk A160;clear A160;have H':=U.mk H;clear H;have p109 : 0≤(x28_2:Int):=of_decide_eq_true (by assumption);have q109:x28_2 < (t106.length:Int):=of_decide_eq_true (by assumption);obtain⟨ad109,e109,hx109_0⟩:=Kd.at_int (Kd.R_reads' HO_26.out).2.2 x28_2 p109 q109
         cases e109
         replace p109:=eq_true p109;replace q109:=eq_true q109;obtain⟨Ao17,co17,eo17⟩:=Kd.R_slice HO_3.out;subst eo17;go_wp2_with (first|((with_reducible refine zx (f:=82) rfl ?_);refine goesL_ (some 35) rfl rfl Tryz.func82 (by kernel_rfl) rfl #[.slice Ao17 x3_2.length co17,.int .i64 (wrap64 (rd t106 x28_2))] rfl (by(try simp only[jq0,jq1,jq2]);first|done|rfl|(simp only[jq3,jq4];rfl)) ?_;(with_reducible refine(qxj.calls k2 (fun k_=>some k_=(.slice Ao17 x3_2.length co17:Value).ownBlock) (.slice Ao17 x3_2.length co17) x3_2 (wrap64 (rd t106 x28_2)) t110 w _ ?side1 ?side2 A16.out).mono ?_);(case side1=>repeat(first|(with_reducible first|exact HB.out|apply L|apply O|apply J)|exact HB.out));(case side2=>exact Kd.R_tight rfl HO_3.out);rintro e w18 ⟨rfl,hy0,hb,hkp⟩;refine⟨_,rfl,?_⟩;replace HO_26:=U.mk (Kd.R_mono (ok':=fun k_=>True) (Kd.R_keptB ((Kd.R_apart' HO_26.out (Kd.R_typed HO_3.out) (by decide))) hkp (fun k_ hk_ hs_=>absurd hs_ (by first|exact hk_.2|((try simp only[and_assoc] at hk_);go_split_ands;assumption)))) (fun k_ hk_=>trivial));replace HO_3:=U.mk (Kd.R_reok rfl hy0 (fun k_ e_=>HO_3.out.1 k_ e_));replace HB:=U.mk (hb);(try clear hb hkp hy0)))
         go_roundg k2
         case measure=>have:=HK1.out;have:=HK2.out;omega
         case rel=>exact⟨(t110),(wrap64 (x28_2 + 1)),(by first|rfl|(simp;done)|(simp[*];done)),H',⟨by have:=HK1.out;have:=HK2.out;omega⟩,⟨by(with_reducible repeat(first|apply Kd.zj|apply Kd.zz|apply Kd.zk));exact HO_3.out⟩,⟨by(with_reducible repeat(first|apply Kd.zj|apply Kd.zz|apply Kd.zk));exact HO_26.out⟩,⟨by solve_by_elim only[HB.out,L,O,J]⟩⟩
        ·rw[if_neg c15] at H;exact absurd H (by simp)
       ·rw[if_neg c14] at H;exact absurd H (by simp)
      ·rw[if_neg c13] at H;have c13b0:decide (x28_2 < (t106.length:Int))=false:=decide_eq_false c13;clear c13;have H':=U.mk H;clear H;go_wp2
       go_loopg [8] k2 (fun kq v8 w'=>∃ (x3_3:List Int) (x8_3:Int),v8=.int .i64 x8_3∧U (qww.l2 kq x3_3 x8_3=some r)∧U (kq≤k2)∧U (Kd.R (Kd.int .i64) 3 w' w.heap.size (fun _=>True) v102 x3_3)∧U (Below w.heap.size w w'))
       case atStart=>exact⟨(x3_2),(0),(by first|rfl|(simp;done)|(simp[*];done)),H',⟨Nat.le_refl _⟩,⟨by(with_reducible repeat(first|apply Kd.zj|apply Kd.zz|apply Kd.zk));exact HO_3.out⟩,⟨by solve_by_elim only[HB.out,L,O,J]⟩⟩
       case round =>
        clear H';try clear c1
        try clear p1 p1
        try clear q1 q1
        try clear hx1
        try clear p2 p2
        try clear c4
        try clear c4b0
        try clear c5
        try clear c5b0
        try clear c6
        try clear c6b0
        try clear p6 p6
        try clear c8
        try clear p10 p10
        try clear q10 q10
        try clear hx10
        try clear c13
        try clear c13b0
        try clear c14
        try clear c14b0
        try clear c15
        try clear c15b0
        try clear c18
        try clear hx104_0
        try clear hx109_0
        try clear p104
        try clear p109
        try clear q104
        try clear q109
        obtain⟨x3_3,x8_3,rfl,HA,HK3,HO_3,HB⟩:=hrel
        cases gk with
        | zero=>exact absurd HA.out (by simp[qww.l2])
        | succ k3 =>
         have H:=HA.out;clear HA;simp only[qww.l2] at H
         by_cases c19:x8_3 < 8
         ·rw[if_pos c19] at H;have c19b0:decide (x8_3 < 8)=true:=decide_eq_true c19;clear c19;replace H:=jq8.mp H;obtain⟨t111,A200,H⟩:=H;try dsimp only at H
          have A20:=U.mk A200;clear A200;have H':=U.mk H;clear H;obtain⟨Ao21,co21,eo21⟩:=Kd.R_slice HO_3.out;subst eo21;go_wp2_with (first|((with_reducible refine zx (f:=82) rfl ?_);refine goesL_ (some 42) rfl rfl Tryz.func82 (by kernel_rfl) rfl #[.slice Ao21 x3_3.length co21,.int .i64 0] rfl (by(try simp only[jq0,jq1,jq2]);first|done|rfl|(simp only[jq3,jq4];rfl)) ?_;(with_reducible refine(qxj.calls k3 (fun k_=>some k_=(.slice Ao21 x3_3.length co21:Value).ownBlock) (.slice Ao21 x3_3.length co21) x3_3 0 t111 w _ ?side1 ?side2 A20.out).mono ?_);(case side1=>repeat(first|(with_reducible first|exact HB.out|apply L|apply O|apply J)|exact HB.out));(case side2=>exact Kd.R_tight rfl HO_3.out);rintro e w22 ⟨rfl,hy0,hb,hkp⟩;refine⟨_,rfl,?_⟩;replace HO_3:=U.mk (Kd.R_reok rfl hy0 (fun k_ e_=>HO_3.out.1 k_ e_));replace HB:=U.mk (hb);(try clear hb hkp hy0)))
          go_roundg k3
          case measure=>have:=HK1.out;have:=HK2.out;have:=HK3.out;omega
          case rel=>exact⟨(t111),(wrap64 (x8_3 + 1)),(by first|rfl|(simp;done)|(simp[*];done)),H',⟨by have:=HK1.out;have:=HK2.out;have:=HK3.out;omega⟩,⟨by(with_reducible repeat(first|apply Kd.zj|apply Kd.zz|apply Kd.zk));exact HO_3.out⟩,⟨by solve_by_elim only[HB.out,L,O,J]⟩⟩
         ·rw[if_neg c19] at H;have c19b0:decide (x8_3 < 8)=false:=decide_eq_false c19;clear c19;have H':=U.mk H;clear H;obtain⟨Ao23,co23,eo23⟩:=Kd.R_slice HO_3.out;subst eo23;go_wp2
          go_loopg [9,45] k3 (fun kq v9 v45 w'=>∃ (x9_4:List Int) (x45_4:Int),v45=.int .i64 x45_4∧U (qww.l3 kq x9_4 x3_3 (x3_3.length:Int) x45_4=some r)∧U (kq≤k3)∧U (Kd.R (Kd.int .u8) 5 w' w.heap.size (fun _=>True) v9 x9_4)∧U (Kd.R (Kd.int .i64) 3 w' w.heap.size (fun _=>True) (.slice Ao23 x3_3.length co23) x3_3)∧U (Below w.heap.size w w'))
          case atStart=>exact⟨(([]:List Int)),(0),(by first|rfl|(simp;done)|(simp[*];done)),H',⟨Nat.le_refl _⟩,⟨by first|exact Kd.R_nil _ _ _ _ _|exact Kd.N_nil _ _ _ _ _|exact Kd.V_nil _ _ _ _ _|exact Kd.Q_nil _ _ _ _ _|exact Kd.S_nil _ _ _ _ _⟩,⟨by(with_reducible repeat(first|apply Kd.zj|apply Kd.zz|apply Kd.zk));exact HO_3.out⟩,⟨by solve_by_elim only[HB.out,L,O,J]⟩⟩
          case round =>
           clear H';try clear c1
           try clear p1 p1
           try clear q1 q1
           try clear hx1
           try clear p2 p2
           try clear c4
           try clear c4b0
           try clear c5
           try clear c5b0
           try clear c6
           try clear c6b0
           try clear p6 p6
           try clear c8
           try clear p10 p10
           try clear q10 q10
           try clear hx10
           try clear c13
           try clear c13b0
           try clear c14
           try clear c14b0
           try clear c15
           try clear c15b0
           try clear c18
           try clear c19
           try clear c19b0
           try clear hx104_0
           try clear hx109_0
           try clear p104
           try clear p109
           try clear q104
           try clear q109
           obtain⟨x9_4,x45_4,rfl,HA,HK4,HO_9,HO_43,HB⟩:=hrel
           cases gk with
           | zero=>exact absurd HA.out (by simp[qww.l3])
           | succ k4 =>
            have H:=HA.out;clear HA;simp only[qww.l3] at H
            by_cases c24:x45_4 < (x3_3.length:Int)
            ·rw[if_pos c24] at H;have c24b0:decide (x45_4 < (x3_3.length:Int))=true:=decide_eq_true c24;clear c24
             by_cases c25 : 0≤x45_4
             ·rw[if_pos c25] at H;have c25b0:decide (0≤x45_4)=true:=decide_eq_true c25;clear c25
              by_cases c26:x45_4 < (x3_3.length:Int)
              ·rw[if_pos c26] at H;have c26b0:decide (x45_4 < (x3_3.length:Int))=true:=decide_eq_true c26;clear c26;replace H:=jq8.mp H;obtain⟨t113,A270,H⟩:=H;try dsimp only at H
               have A27:=U.mk A270;clear A270
               by_cases c28:x9_4.length + t113.length < 140737488355328
               ·rw[if_pos c28] at H;have LMc28:=U.mk c28;clear c28;obtain⟨y116,hy116⟩ : ∃ y_:List Int,y_=(x9_4 ++ t113):=⟨_,rfl⟩;replace H:(qww.l3 k4 y116 x3_3 (x3_3.length:Int) (wrap64 (x45_4 + 1)))=some r:=by first|(rw[hy116];with_reducible exact H)|(have H2_:=(Option.bind_some _ _).symm.trans H;rw[hy116];with_reducible exact H2_)|(have H2_:=(Option.bind_some _ _).symm.trans H;with_reducible exact H2_)|with_reducible exact H|(rw[hy116];exact H)|exact H
                have Ny116:=U.mk hy116;clear hy116;have H':=U.mk H;clear H;have p112 : 0≤(x45_4:Int):=of_decide_eq_true (by assumption);have q112:x45_4 < (x3_3.length:Int):=of_decide_eq_true (by assumption);obtain⟨ad112,e112,hx112_0⟩:=Kd.at_int (Kd.R_reads' HO_43.out).2.2 x45_4 p112 q112
                cases e112
                replace p112:=eq_true p112;replace q112:=eq_true q112;go_wp2_with (first|((with_reducible refine zx (f:=18) rfl ?_);refine goesL_ (some 51) rfl rfl Tryz.func18 (by kernel_rfl) rfl #[.int .i64 (rd x3_3 x45_4)] rfl (by(try simp only[jq0,jq1,jq2]);first|done|rfl|(simp only[jq3,jq4];rfl)) ?_;(with_reducible refine(qwv.calls k4 (rd x3_3 x45_4) t113 _ A27.out).mono ?_);rintro e w29 ⟨v114,rfl,ho0,hb⟩;refine⟨_,rfl,?_⟩;replace HO_43:=U.mk (Kd.R_below (by solve_by_elim only[HO_43.out,Kd.zj,Kd.zz,Kd.zk]) hb);have HO115:=U.mk (Kd.R_lower (Kd.R_new' ho0 (Kd.R_lt (by solve_by_elim only[HO_9.out,Kd.zj,Kd.zz,Kd.zk]))) (zq (by solve_by_elim only[HB.out,L,O,J])));replace HO_9:=U.mk (Kd.R_elder' (by solve_by_elim only[HO_9.out,Kd.zj,Kd.zz,Kd.zk]) (Kd.R_base ho0) hb);replace HB:=U.mk (qx (by solve_by_elim only[HB.out,L,O,J]) hb);(try clear hb ho0);obtain⟨Ao31,co31,eo31⟩:=Kd.R_slice HO115.out;subst eo31)|((with_reducible refine gate_builtin (b:=.append) (xs:=#[.tmp 49,.tmp 51]) rfl ?_);at_builtin;refine Kd.R_append_rows (Kd.int .u8) (w0:=w) w.heap.size rfl (.tmp 49) (.tmp 51) 44 5 (.int .u8 0) 1 rfl Tryz.underlying44 info5 rfl (by decide) (by omega) u9 x9_4 t113 _ _ _ (fun k_=>some k_≠(.slice Ao31 t113.length co31:Value).ownBlock) (fun _=>False) rfl rfl ?aO ?aR (fun _ _ h=>h) (fun _ h=>h.elim) ?aF ?aB ?aS ?aL ?_;(case aR=>repeat(first|exact(Kd.R_reads' HO115.out).2.2|(with_reducible refine Kd.C_alloc ?_ _)|(with_reducible refine Kd.C_drewN ?_ _)|(with_reducible refine Kd.C_drew ?_)));(case aB=>exact(by solve_by_elim only[HB.out,L,O,J]));(case aF=>exact(fun k_ hk=>Kd.fresh' (Kd.R_lt (by solve_by_elim only[HO115.out,Kd.zj,Kd.zz,Kd.zk])) k_ hk));(case aO=>exact(by(with_reducible repeat(first|apply Kd.zj|apply Kd.zz|apply Kd.zk));exact Kd.R_mono HO_9.out (fun _ hk=>hk.2)));(case aS=>exact(zq (by solve_by_elim only[HB.out,L,O,J])));(case aL=>have:=LMc28.out;omega);intro v117 w30 ho hb hg hat;rw[← Ny116.out] at ho;replace HO_43:=U.mk (Kd.R_over' (by solve_by_elim only[HO_43.out,Kd.zj,Kd.zz,Kd.zk]) (Kd.R_typed (by solve_by_elim only[HO_9.out,Kd.zj,Kd.zz,Kd.zk])) (by decide) hg);replace HO115:=U.mk (Kd.R_after (ok:=(fun _=>True)) (by solve_by_elim only[HO115.out,Kd.zj,Kd.zz,Kd.zk]) hg hat);replace HB:=U.mk (hb);have HO118:=U.mk (ho);clear HO_9;clear ho hb hg hat))
                go_roundg k4
                case measure=>have:=HK1.out;have:=HK2.out;have:=HK3.out;have:=HK4.out;omega
                case rel=>exact⟨(y116),(wrap64 (x45_4 + 1)),(by first|rfl|(simp;done)|(simp[*];done)),H',⟨by have:=HK1.out;have:=HK2.out;have:=HK3.out;have:=HK4.out;omega⟩,⟨by(with_reducible repeat(first|apply Kd.zj|apply Kd.zz|apply Kd.zk));exact Kd.R_mono HO118.out (fun _ hk=>trivial)⟩,⟨by(with_reducible repeat(first|apply Kd.zj|apply Kd.zz|apply Kd.zk));exact HO_43.out⟩,⟨by solve_by_elim only[HB.out,L,O,J]⟩⟩
               ·rw[if_neg c28] at H;exact absurd H (by simp)
              ·rw[if_neg c26] at H;exact absurd H (by simp)
             ·rw[if_neg c25] at H;exact absurd H (by simp)
            ·rw[if_neg c24] at H;have c24b0:decide (x45_4 < (x3_3.length:Int))=false:=decide_eq_false c24;clear c24;obtain rfl:=Option.some.inj H;go_wp2;go_ret
             exact⟨_,by first|rfl|(simp[*,zw,zv] <;> rfl),by(with_reducible repeat(first|apply Kd.zj|apply Kd.zz|apply Kd.zk));exact HO_9.out,by solve_by_elim only[HB.out,L,O,J]⟩
def zqq.f (k:Nat) (l0:List Int) (l1:List Int):Option (List Int):=if ([]:List Int).length + l0.length < 140737488355328 then((some (([]:List Int) ++ l0:List Int)).bind fun y101=>(if y101.length + l1.length < 140737488355328 then((qww.f k (y101 ++ l1)).bind fun t107=>(some t107)) else(none))) else(none)
theorem zqq.calls (k:Nat) (A0:Option Addr) (c0:Nat) (l0:List Int) (A1:Option Addr) (c1:Nat) (l1:List Int) (r:List Int) (w:World) (hr0:Kd.C (Kd.int .u8) w A0 l0.length l0) (hc0:l0.length≤c0) (hr1:Kd.C (Kd.int .u8) w A1 l1.length l1) (hc1:l1.length≤c1) (h:zqq.f k l0 l1=some r) :
  Calls Tryz.prog 60 #[.slice A0 l0.length c0,.slice A1 l1.length c1] w fun e w'=>∃ v0_:Value,e=.returned (v0_)∧Kd.R (Kd.int .u8) 5 w' w.heap.size (fun _=>True) v0_ r∧Below w.heap.size w w':=by
 have HR0:=U.mk hr0;have HC0:=U.mk hc0;clear hr0 hc0;have HR1:=U.mk hr1;have HC1:=U.mk hc1;clear hr1 hc1;have HB:=U.mk (Below.refl w.heap.size w);unfold zqq.f at h;have H:=h;clear h
 by_cases c3:([]:List Int).length + l0.length < 140737488355328
 ·rw[if_pos c3] at H;have LMc3:=U.mk c3;clear c3;obtain⟨y101,hy101⟩ : ∃ y_:List Int,y_=(([]:List Int) ++ l0):=⟨_,rfl⟩;replace H:(if y101.length + l1.length < 140737488355328 then((qww.f k (y101 ++ l1)).bind fun t107=>(some t107)) else(none))=some r:=by first|(rw[hy101];with_reducible exact H)|(have H2_:=(Option.bind_some _ _).symm.trans H;rw[hy101];with_reducible exact H2_)|(have H2_:=(Option.bind_some _ _).symm.trans H;with_reducible exact H2_)|with_reducible exact H|(rw[hy101];exact H)|exact H
  have Ny101:=U.mk hy101;clear hy101
  by_cases c4:y101.length + l1.length < 140737488355328
  ·rw[if_pos c4] at H;have LMc4:=U.mk c4;clear c4;obtain⟨y104,hy104⟩ : ∃ y_:List Int,y_=(y101 ++ l1):=⟨_,rfl⟩;replace H:((qww.f k y104).bind fun t107=>(some t107))=some r:=by first|(rw[hy104];with_reducible exact H)|(have H2_:=(Option.bind_some _ _).symm.trans H;rw[hy104];with_reducible exact H2_)|(have H2_:=(Option.bind_some _ _).symm.trans H;with_reducible exact H2_)|with_reducible exact H|(rw[hy104];exact H)|exact H
   have Ny104:=U.mk hy104;clear hy104;replace H:=jq8.mp H;obtain⟨t107,A50,H⟩:=H;replace H:(some t107)=some r:=H;have A5:=U.mk A50;clear A50;obtain rfl:=Option.some.inj H;go_enter Tryz.func60,Tryz.ntmps60;go_wp2_with (first|((with_reducible refine gate_builtin (b:=.append) (xs:=#[.tmp 6,.tmp 7]) rfl ?_);at_builtin;refine Kd.R_append_rows (Kd.int .u8) (w0:=w) w.heap.size rfl (.tmp 6) (.tmp 7) 44 5 (.int .u8 0) 1 rfl Tryz.underlying44 info5 rfl (by decide) (by omega) (.slice none 0 0) ([]:List Int) l0 _ _ _ (fun _=>True) (fun _=>False) rfl rfl ?aO ?aR (fun _ _ h=>h) (fun _ h=>h.elim) ?aF ?aB ?aS ?aL ?_;(case aR=>repeat(first|exact HR0.out|(with_reducible refine Kd.C_alloc ?_ _)|(with_reducible refine Kd.C_drewN ?_ _)|(with_reducible refine Kd.C_drew ?_)));(case aB=>exact(by solve_by_elim only[HB.out,L,O,J]));(case aF=>exact(fun _ _=>trivial));(case aO=>exact((Kd.R_nil _ _ _ _ (fun _=>True))));(case aS=>exact(zq (by solve_by_elim only[HB.out,L,O,J])));(case aL=>have:=LMc3.out;omega);intro v102 w6 ho hb hg hat;rw[← Ny101.out] at ho;replace HB:=U.mk (hb);have HO103:=U.mk (ho);clear ho hb hg hat)|((with_reducible refine gate_builtin (b:=.append) (xs:=#[.tmp 8,.tmp 9]) rfl ?_);at_builtin;refine Kd.R_append_rows (Kd.int .u8) (w0:=w) w.heap.size rfl (.tmp 8) (.tmp 9) 44 5 (.int .u8 0) 1 rfl Tryz.underlying44 info5 rfl (by decide) (by omega) v102 y101 l1 _ _ _ (fun _=>True) (fun _=>False) rfl rfl ?aO ?aR (fun _ _ h=>h) (fun _ h=>h.elim) ?aF ?aB ?aS ?aL ?_;(case aR=>repeat(first|exact(Kd.C_below HR1.out HB.out)|(with_reducible refine Kd.C_alloc ?_ _)|(with_reducible refine Kd.C_drewN ?_ _)|(with_reducible refine Kd.C_drew ?_)));(case aB=>exact(by solve_by_elim only[HB.out,L,O,J]));(case aF=>exact(fun _ _=>trivial));(case aO=>exact(by solve_by_elim only[HO103.out,Kd.zj,Kd.zz,Kd.zk]));(case aS=>exact(zq (by solve_by_elim only[HB.out,L,O,J])));(case aL=>have:=LMc4.out;omega);intro v105 w7 ho hb hg hat;rw[← Ny104.out] at ho;replace HB:=U.mk (hb);have HO106:=U.mk (ho);clear HO103;clear ho hb hg hat;obtain⟨Ao8,co8,eo8⟩:=Kd.R_slice HO106.out;subst eo8)|((with_reducible refine zx (f:=61) rfl ?_);refine goesL_ (some 11) rfl rfl Tryz.func61 (by kernel_rfl) rfl #[.slice Ao8 y104.length co8] rfl (by(try simp only[jq0,jq1,jq2]);first|done|rfl|(simp only[jq3,jq4];rfl)) ?_;(with_reducible refine(qww.calls k _ _ y104 t107 _ ?side1 ?side2 A5.out).mono ?_);(case side1=>solve_by_elim only[(Kd.R_reads' HO106.out).2.2,Kd.C_alloc,Kd.C_drewN,Kd.C_drew]);(case side2=>exact(Kd.R_reads' HO106.out).2.1);rintro e w9 ⟨v108,rfl,ho0,hb⟩;refine⟨_,rfl,?_⟩;have HO109:=U.mk (Kd.R_lower (Kd.R_new' ho0 (Kd.R_lt (by solve_by_elim only[HO106.out,Kd.zj,Kd.zz,Kd.zk]))) (zq (by solve_by_elim only[HB.out,L,O,J])));replace HO106:=U.mk (Kd.R_elder' (by solve_by_elim only[HO106.out,Kd.zj,Kd.zz,Kd.zk]) (Kd.R_base ho0) hb);replace HB:=U.mk (qx (by solve_by_elim only[HB.out,L,O,J]) hb);(try clear hb ho0)))
   go_ret
   exact⟨_,by first|rfl|(simp[*,zw,zv] <;> rfl),by(with_reducible repeat(first|apply Kd.zj|apply Kd.zz|apply Kd.zk));exact Kd.R_mono HO109.out (fun _ hk=>trivial),by solve_by_elim only[HB.out,L,O,J]⟩
  ·rw[if_neg c4] at H;exact absurd H (by simp)
 ·rw[if_neg c3] at H;exact absurd H (by simp)
def qxz.f (k:Nat) (l0:List Int) (l1:List Int):Option (List Int):=(qww.f k l0).bind fun t101=>((qww.f k l1).bind fun t104=>((zqq.f k t101 t104).bind fun t107=>(some t107)))
theorem qxz.calls (k:Nat) (A0:Option Addr) (c0:Nat) (l0:List Int) (A1:Option Addr) (c1:Nat) (l1:List Int) (r:List Int) (w:World) (hr0:Kd.C (Kd.int .u8) w A0 l0.length l0) (hc0:l0.length≤c0) (hr1:Kd.C (Kd.int .u8) w A1 l1.length l1) (hc1:l1.length≤c1) (h:qxz.f k l0 l1=some r) :
  Calls Tryz.prog 39 #[.slice A0 l0.length c0,.slice A1 l1.length c1] w fun e w'=>∃ v0_:Value,e=.returned (v0_)∧Kd.R (Kd.int .u8) 5 w' w.heap.size (fun _=>True) v0_ r∧Below w.heap.size w w':=by
 have HR0:=U.mk hr0;have HC0:=U.mk hc0;clear hr0 hc0;have HR1:=U.mk hr1;have HC1:=U.mk hc1;clear hr1 hc1;have HB:=U.mk (Below.refl w.heap.size w);unfold qxz.f at h;have H:=h;clear h;replace H:=jq8.mp H;obtain⟨t101,A30,H⟩:=H;try dsimp only at H
 have A3:=U.mk A30;clear A30;replace H:=jq8.mp H;obtain⟨t104,A40,H⟩:=H;try dsimp only at H
 have A4:=U.mk A40;clear A40;replace H:=jq8.mp H;obtain⟨t107,A50,H⟩:=H;replace H:(some t107)=some r:=H;have A5:=U.mk A50;clear A50;obtain rfl:=Option.some.inj H;go_enter Tryz.func39,Tryz.ntmps39;go_wp2_with (first|((with_reducible refine zx (f:=61) rfl ?_);refine goesL_ (some 6) rfl rfl Tryz.func61 (by kernel_rfl) rfl #[.slice A0 l0.length c0] rfl (by(try simp only[jq0,jq1,jq2]);first|done|rfl|(simp only[jq3,jq4];rfl)) ?_;(with_reducible refine(qww.calls k _ _ l0 t101 _ ?side1 ?side2 A3.out).mono ?_);(case side1=>solve_by_elim only[HR0.out,Kd.C_alloc,Kd.C_drewN,Kd.C_drew]);(case side2=>exact HC0.out);rintro e w6 ⟨v102,rfl,ho0,hb⟩;refine⟨_,rfl,?_⟩;have HO103:=U.mk (Kd.R_lower ho0 (zq (by solve_by_elim only[HB.out,L,O,J])));replace HB:=U.mk (qx (by solve_by_elim only[HB.out,L,O,J]) hb);(try clear hb ho0))|((with_reducible refine zx (f:=61) rfl ?_);refine goesL_ (some 8) rfl rfl Tryz.func61 (by kernel_rfl) rfl #[.slice A1 l1.length c1] rfl (by(try simp only[jq0,jq1,jq2]);first|done|rfl|(simp only[jq3,jq4];rfl)) ?_;(with_reducible refine(qww.calls k _ _ l1 t104 _ ?side1 ?side2 A4.out).mono ?_);(case side1=>solve_by_elim only[(Kd.C_below HR1.out HB.out),Kd.C_alloc,Kd.C_drewN,Kd.C_drew]);(case side2=>exact HC1.out);rintro e w7 ⟨v105,rfl,ho0,hb⟩;refine⟨_,rfl,?_⟩;have HO106:=U.mk (Kd.R_lower (Kd.R_new' ho0 (Kd.R_lt (by solve_by_elim only[HO103.out,Kd.zj,Kd.zz,Kd.zk]))) (zq (by solve_by_elim only[HB.out,L,O,J])));replace HO103:=U.mk (Kd.R_elder' (by solve_by_elim only[HO103.out,Kd.zj,Kd.zz,Kd.zk]) (Kd.R_base ho0) hb);replace HB:=U.mk (qx (by solve_by_elim only[HB.out,L,O,J]) hb);(try clear hb ho0);obtain⟨Ao8,co8,eo8⟩:=Kd.R_slice HO103.out;subst eo8;obtain⟨Ao9,co9,eo9⟩:=Kd.R_slice HO106.out;subst eo9)|((with_reducible refine zx (f:=60) rfl ?_);refine goesL_ (some 9) rfl rfl Tryz.func60 (by kernel_rfl) rfl #[.slice Ao8 t101.length co8,.slice Ao9 t104.length co9] rfl (by(try simp only[jq0,jq1,jq2]);first|done|rfl|(simp only[jq3,jq4];rfl)) ?_;(with_reducible refine(zqq.calls k _ _ t101 _ _ t104 t107 _ ?side1 ?side2 ?side3 ?side4 A5.out).mono ?_);(case side1=>solve_by_elim only[(Kd.R_reads' HO103.out).2.2,Kd.C_alloc,Kd.C_drewN,Kd.C_drew]);(case side2=>exact(Kd.R_reads' HO103.out).2.1);(case side3=>solve_by_elim only[(Kd.R_reads' HO106.out).2.2,Kd.C_alloc,Kd.C_drewN,Kd.C_drew]);(case side4=>exact(Kd.R_reads' HO106.out).2.1);rintro e w10 ⟨v108,rfl,ho0,hb⟩;refine⟨_,rfl,?_⟩;have HO109:=U.mk (Kd.R_lower (Kd.R_new' (Kd.R_new' ho0 (Kd.R_lt (by solve_by_elim only[HO103.out,Kd.zj,Kd.zz,Kd.zk]))) (Kd.R_lt (by solve_by_elim only[HO106.out,Kd.zj,Kd.zz,Kd.zk]))) (zq (by solve_by_elim only[HB.out,L,O,J])));replace HO103:=U.mk (Kd.R_elder' (by solve_by_elim only[HO103.out,Kd.zj,Kd.zz,Kd.zk]) (Kd.R_base ho0) hb);replace HO106:=U.mk (Kd.R_elder' (by solve_by_elim only[HO106.out,Kd.zj,Kd.zz,Kd.zk]) (Kd.R_base ho0) hb);replace HB:=U.mk (qx (by solve_by_elim only[HB.out,L,O,J]) hb);(try clear hb ho0)))
 go_ret
 exact⟨_,by first|rfl|(simp[*,zw,zv] <;> rfl),by(with_reducible repeat(first|apply Kd.zj|apply Kd.zz|apply Kd.zk));exact Kd.R_mono HO109.out (fun _ hk=>trivial),by solve_by_elim only[HB.out,L,O,J]⟩
end Go.Proofs.YtkcdefnpbnbaeaaGreatDoor.Pr
namespace Go.Proofs.YtkcdefnpbnbaeaaGreatDoor.Pr
open Go.RowKit Go.Proofs.YtkcdefnpbnbaeaaGreatDoorW.PrintWords Go.Proofs.YtkcdefnpbnbaeaaGreatDoorW.PrintLast Go.Proofs.YtkcdefnpbnbaeaaGreatDoorW.PrintMore
attribute [local go_sem] max2_int min2_int max_two min_two max_three min_three max_four min_four
set_option linter.unusedVariables false
set_option linter.unusedSimpArgs false
def qwx.f (k:Nat) (a0:Int) (l1:List Int):Option (Int):=(qwv.f k a0).bind fun t101=>(if ([]:List Int).length + t101.length < 140737488355328 then((some (([]:List Int) ++ t101:List Int)).bind fun y104=>((qww.f k l1).bind fun t107=>(if y104.length + t107.length < 140737488355328 then((qww.f k (y104 ++ t107)).bind fun t113=>((qxk.f k t113).bind fun t116=>(some (Int.tmod t116 1073741789)))) else(none)))) else(none))
theorem qwx.calls (k:Nat) (a0:Int) (A1:Option Addr) (c1:Nat) (l1:List Int) (r:Int) (w:World) (hr1:Kd.C (Kd.int .u8) w A1 l1.length l1) (hc1:l1.length≤c1) (h:qwx.f k a0 l1=some r) :
  Calls Tryz.prog 41 #[.int .i64 a0,.slice A1 l1.length c1] w fun e w'=>e=.returned (.int .i64 r)∧Below w.heap.size w w':=by
 have HR1:=U.mk hr1;have HC1:=U.mk hc1;clear hr1 hc1;have HB:=U.mk (Below.refl w.heap.size w);unfold qwx.f at h;have H:=h;clear h;replace H:=jq8.mp H;obtain⟨t101,A30,H⟩:=H;try dsimp only at H
 have A3:=U.mk A30;clear A30
 by_cases c4:([]:List Int).length + t101.length < 140737488355328
 ·rw[if_pos c4] at H;have LMc4:=U.mk c4;clear c4;obtain⟨y104,hy104⟩ : ∃ y_:List Int,y_=(([]:List Int) ++ t101):=⟨_,rfl⟩;replace H:((qww.f k l1).bind fun t107=>(if y104.length + t107.length < 140737488355328 then((qww.f k (y104 ++ t107)).bind fun t113=>((qxk.f k t113).bind fun t116=>(some (Int.tmod t116 1073741789)))) else(none)))=some r:=by first|(rw[hy104];with_reducible exact H)|(have H2_:=(Option.bind_some _ _).symm.trans H;rw[hy104];with_reducible exact H2_)|(have H2_:=(Option.bind_some _ _).symm.trans H;with_reducible exact H2_)|with_reducible exact H|(rw[hy104];exact H)|exact H
  have Ny104:=U.mk hy104;clear hy104;replace H:=jq8.mp H;obtain⟨t107,A50,H⟩:=H;try dsimp only at H
  have A5:=U.mk A50;clear A50
  by_cases c6:y104.length + t107.length < 140737488355328
  ·rw[if_pos c6] at H;have LMc6:=U.mk c6;clear c6;obtain⟨y110,hy110⟩ : ∃ y_:List Int,y_=(y104 ++ t107):=⟨_,rfl⟩;replace H:((qww.f k y110).bind fun t113=>((qxk.f k t113).bind fun t116=>(some (Int.tmod t116 1073741789))))=some r:=by first|(rw[hy110];with_reducible exact H)|(have H2_:=(Option.bind_some _ _).symm.trans H;rw[hy110];with_reducible exact H2_)|(have H2_:=(Option.bind_some _ _).symm.trans H;with_reducible exact H2_)|with_reducible exact H|(rw[hy110];exact H)|exact H
   have Ny110:=U.mk hy110;clear hy110;replace H:=jq8.mp H;obtain⟨t113,A70,H⟩:=H;try dsimp only at H
   have A7:=U.mk A70;clear A70;replace H:=jq8.mp H;obtain⟨t116,A80,H⟩:=H;try dsimp only at H
   have A8:=U.mk A80;clear A80;obtain rfl:=Option.some.inj H;go_enter Tryz.func41,Tryz.ntmps41;go_wp2_with (first|((with_reducible refine zx (f:=18) rfl ?_);refine goesL_ (some 8) rfl rfl Tryz.func18 (by kernel_rfl) rfl #[.int .i64 a0] rfl (by(try simp only[jq0,jq1,jq2]);first|done|rfl|(simp only[jq3,jq4];rfl)) ?_;(with_reducible refine(qwv.calls k a0 t101 _ A3.out).mono ?_);rintro e w9 ⟨v102,rfl,ho0,hb⟩;refine⟨_,rfl,?_⟩;have HO103:=U.mk (Kd.R_lower ho0 (zq (by solve_by_elim only[HB.out,L,O,J])));replace HB:=U.mk (qx (by solve_by_elim only[HB.out,L,O,J]) hb);(try clear hb ho0);obtain⟨Ao11,co11,eo11⟩:=Kd.R_slice HO103.out;subst eo11)|((with_reducible refine gate_builtin (b:=.append) (xs:=#[.tmp 6,.tmp 8]) rfl ?_);at_builtin;refine Kd.R_append_rows (Kd.int .u8) (w0:=w) w.heap.size rfl (.tmp 6) (.tmp 8) 44 5 (.int .u8 0) 1 rfl Tryz.underlying44 info5 rfl (by decide) (by omega) (.slice none 0 0) ([]:List Int) t101 _ _ _ (fun k_=>some k_≠(.slice Ao11 t101.length co11:Value).ownBlock) (fun _=>False) rfl rfl ?aO ?aR (fun _ _ h=>h) (fun _ h=>h.elim) ?aF ?aB ?aS ?aL ?_;(case aR=>repeat(first|exact(Kd.R_reads' HO103.out).2.2|(with_reducible refine Kd.C_alloc ?_ _)|(with_reducible refine Kd.C_drewN ?_ _)|(with_reducible refine Kd.C_drew ?_)));(case aB=>exact(by solve_by_elim only[HB.out,L,O,J]));(case aF=>exact(fun k_ hk=>Kd.fresh' (Kd.R_lt (by solve_by_elim only[HO103.out,Kd.zj,Kd.zz,Kd.zk])) k_ hk));(case aO=>exact((Kd.R_nil _ _ _ _ (fun k_=>some k_≠(.slice Ao11 t101.length co11:Value).ownBlock))));(case aS=>exact(zq (by solve_by_elim only[HB.out,L,O,J])));(case aL=>have:=LMc4.out;omega);intro v105 w10 ho hb hg hat;rw[← Ny104.out] at ho;replace HO103:=U.mk (Kd.R_after (Kd.R_apart_nil (by solve_by_elim only[HO103.out,Kd.zj,Kd.zz,Kd.zk])) hg hat);replace HB:=U.mk (hb);have HO106:=U.mk (ho);clear ho hb hg hat)|((with_reducible refine zx (f:=61) rfl ?_);refine goesL_ (some 11) rfl rfl Tryz.func61 (by kernel_rfl) rfl #[.slice A1 l1.length c1] rfl (by(try simp only[jq0,jq1,jq2]);first|done|rfl|(simp only[jq3,jq4];rfl)) ?_;(with_reducible refine(qww.calls k _ _ l1 t107 _ ?side1 ?side2 A5.out).mono ?_);(case side1=>solve_by_elim only[(Kd.C_below HR1.out HB.out),Kd.C_alloc,Kd.C_drewN,Kd.C_drew]);(case side2=>exact HC1.out);rintro e w12 ⟨v108,rfl,ho0,hb⟩;refine⟨_,rfl,?_⟩;have HO109:=U.mk (Kd.R_lower (Kd.R_new' (Kd.R_new' ho0 (Kd.R_lt (by solve_by_elim only[HO103.out,Kd.zj,Kd.zz,Kd.zk]))) (Kd.R_lt (by solve_by_elim only[HO106.out,Kd.zj,Kd.zz,Kd.zk]))) (zq (by solve_by_elim only[HB.out,L,O,J])));replace HO103:=U.mk (Kd.R_elder' (by solve_by_elim only[HO103.out,Kd.zj,Kd.zz,Kd.zk]) (Kd.R_base ho0) hb);replace HO106:=U.mk (Kd.R_elder' (by solve_by_elim only[HO106.out,Kd.zj,Kd.zz,Kd.zk]) (Kd.R_base ho0) hb);replace HB:=U.mk (qx (by solve_by_elim only[HB.out,L,O,J]) hb);(try clear hb ho0);obtain⟨Ao14,co14,eo14⟩:=Kd.R_slice HO109.out;subst eo14)|((with_reducible refine gate_builtin (b:=.append) (xs:=#[.tmp 9,.tmp 11]) rfl ?_);at_builtin;refine Kd.R_append_rows (Kd.int .u8) (w0:=w) w.heap.size rfl (.tmp 9) (.tmp 11) 44 5 (.int .u8 0) 1 rfl Tryz.underlying44 info5 rfl (by decide) (by omega) v105 y104 t107 _ _ _ (fun k_=>some k_≠(.slice Ao11 t101.length co11:Value).ownBlock∧some k_≠(.slice Ao14 t107.length co14:Value).ownBlock) (fun _=>False) rfl rfl ?aO ?aR (fun _ _ h=>h) (fun _ h=>h.elim) ?aF ?aB ?aS ?aL ?_;(case aR=>repeat(first|exact(Kd.R_reads' HO109.out).2.2|(with_reducible refine Kd.C_alloc ?_ _)|(with_reducible refine Kd.C_drewN ?_ _)|(with_reducible refine Kd.C_drew ?_)));(case aB=>exact(by solve_by_elim only[HB.out,L,O,J]));(case aF=>exact(fun k_ hk=>⟨Kd.fresh' (Kd.R_lt (by solve_by_elim only[HO103.out,Kd.zj,Kd.zz,Kd.zk])) k_ hk,Kd.fresh' (Kd.R_lt (by solve_by_elim only[HO109.out,Kd.zj,Kd.zz,Kd.zk])) k_ hk⟩));(case aO=>exact(by solve_by_elim only[HO106.out,Kd.zj,Kd.zz,Kd.zk]));(case aS=>exact(zq (by solve_by_elim only[HB.out,L,O,J])));(case aL=>have:=LMc6.out;omega);intro v111 w13 ho hb hg hat;rw[← Ny110.out] at ho;replace HO103:=U.mk (Kd.R_after (ok:=(fun k_=>some k_≠(.slice Ao14 t107.length co14:Value).ownBlock)) (by(with_reducible repeat(first|apply Kd.zj|apply Kd.zz|apply Kd.zk));exact Kd.R_mono HO103.out (fun _ hk=>⟨hk.2,hk.1.2⟩)) hg hat);replace HO109:=U.mk (Kd.R_after (ok:=(fun k_=>some k_≠(.slice Ao11 t101.length co11:Value).ownBlock)) (by(with_reducible repeat(first|apply Kd.zj|apply Kd.zz|apply Kd.zk));exact Kd.R_mono HO109.out (fun _ hk=>⟨hk.1.2,hk.2⟩)) hg hat);replace HB:=U.mk (hb);have HO112:=U.mk (ho);clear HO106;clear ho hb hg hat;obtain⟨Ao15,co15,eo15⟩:=Kd.R_slice HO112.out;subst eo15)|((with_reducible refine zx (f:=61) rfl ?_);refine goesL_ (some 14) rfl rfl Tryz.func61 (by kernel_rfl) rfl #[.slice Ao15 y110.length co15] rfl (by(try simp only[jq0,jq1,jq2]);first|done|rfl|(simp only[jq3,jq4];rfl)) ?_;(with_reducible refine(qww.calls k _ _ y110 t113 _ ?side1 ?side2 A7.out).mono ?_);(case side1=>solve_by_elim only[(Kd.R_reads' HO112.out).2.2,Kd.C_alloc,Kd.C_drewN,Kd.C_drew]);(case side2=>exact(Kd.R_reads' HO112.out).2.1);rintro e w16 ⟨v114,rfl,ho0,hb⟩;refine⟨_,rfl,?_⟩;have HO115:=U.mk (Kd.R_lower (Kd.R_new' (Kd.R_new' (Kd.R_new' ho0 (Kd.R_lt (by solve_by_elim only[HO103.out,Kd.zj,Kd.zz,Kd.zk]))) (Kd.R_lt (by solve_by_elim only[HO109.out,Kd.zj,Kd.zz,Kd.zk]))) (Kd.R_lt (by solve_by_elim only[HO112.out,Kd.zj,Kd.zz,Kd.zk]))) (zq (by solve_by_elim only[HB.out,L,O,J])));replace HO103:=U.mk (Kd.R_elder' (by solve_by_elim only[HO103.out,Kd.zj,Kd.zz,Kd.zk]) (Kd.R_base ho0) hb);replace HO109:=U.mk (Kd.R_elder' (by solve_by_elim only[HO109.out,Kd.zj,Kd.zz,Kd.zk]) (Kd.R_base ho0) hb);replace HO112:=U.mk (Kd.R_elder' (by solve_by_elim only[HO112.out,Kd.zj,Kd.zz,Kd.zk]) (Kd.R_base ho0) hb);replace HB:=U.mk (qx (by solve_by_elim only[HB.out,L,O,J]) hb);(try clear hb ho0);obtain⟨Ao17,co17,eo17⟩:=Kd.R_slice HO115.out;subst eo17)|((with_reducible refine zx (f:=38) rfl ?_);refine goesL_ (some 15) rfl rfl Tryz.func38 (by kernel_rfl) rfl #[.slice Ao17 t113.length co17] rfl (by(try simp only[jq0,jq1,jq2]);first|done|rfl|(simp only[jq3,jq4];rfl)) ?_;(with_reducible refine(qxk.calls k _ _ t113 t116 _ ?side1 ?side2 A8.out).mono ?_);(case side1=>solve_by_elim only[(Kd.R_reads' HO115.out).2.2,Kd.C_alloc,Kd.C_drewN,Kd.C_drew]);(case side2=>exact(Kd.R_reads' HO115.out).2.1);rintro e w' ⟨rfl,⟨nd,rfl⟩⟩;refine⟨_,rfl,?_⟩))
   go_ret
   exact⟨by first|rfl|(simp[*,zw,zv] <;> rfl),by solve_by_elim only[HB.out,L,O,J]⟩
  ·rw[if_neg c6] at H;exact absurd H (by simp)
 ·rw[if_neg c4] at H;exact absurd H (by simp)
end Go.Proofs.YtkcdefnpbnbaeaaGreatDoor.Pr
namespace Go.Proofs.YtkcdefnpbnbaeaaGreatDoor.Pr
open Go.RowKit Go.Proofs.YtkcdefnpbnbaeaaGreatDoorW.PrintWords Go.Proofs.YtkcdefnpbnbaeaaGreatDoorW.PrintLast Go.Proofs.YtkcdefnpbnbaeaaGreatDoorW.PrintMore
attribute [local go_sem] max2_int min2_int max_two min_two max_three min_three max_four min_four
set_option linter.unusedVariables false
set_option linter.unusedSimpArgs false
def qxx.f (k:Nat) (a0:Int) (l1:List Int):Option (Int × Int):=(qwv.f k a0).bind fun t102=>((qxz.f k t102 l1).bind fun t105=>((qxk.f k t105).bind fun t108=>((qxv.f k 4 (wrap64 (1 + (Int.tmod t108 1073741788))) 2147483579).bind fun t109=>((qwx.f k t109 l1).bind fun t110=>(some (t109,Int.tmod (wrap64 ((wrap64 (1 + (Int.tmod t108 1073741788))) + (wrap64 (t110 * a0)))) 1073741789))))))
theorem qxx.calls (k:Nat) (a0:Int) (A1:Option Addr) (c1:Nat) (l1:List Int) (r1:Int) (r2:Int) (w:World) (hr1:Kd.C (Kd.int .u8) w A1 l1.length l1) (hc1:l1.length≤c1) (h:qxx.f k a0 l1=some (r1,r2)) :
  Calls Tryz.prog 17 #[.int .i64 a0,.slice A1 l1.length c1] w fun e w'=>e=.returned (.agg #[.int .i64 r1,.int .i64 r2])∧Below w.heap.size w w':=by
 have hu47:=Tryz.underlying47;have HR1:=U.mk hr1;have HC1:=U.mk hc1;clear hr1 hc1;have HB:=U.mk (Below.refl w.heap.size w);unfold qxx.f at h;have H:=h;clear h;replace H:=jq8.mp H;obtain⟨t102,A30,H⟩:=H;try dsimp only at H
 have A3:=U.mk A30;clear A30;replace H:=jq8.mp H;obtain⟨t105,A40,H⟩:=H;try dsimp only at H
 have A4:=U.mk A40;clear A40;replace H:=jq8.mp H;obtain⟨t108,A50,H⟩:=H;try dsimp only at H
 have A5:=U.mk A50;clear A50;replace H:=jq8.mp H;obtain⟨t109,A60,H⟩:=H;try dsimp only at H
 have A6:=U.mk A60;clear A60;replace H:=jq8.mp H;obtain⟨t110,A70,H⟩:=H;try dsimp only at H
 have A7:=U.mk A70;clear A70;simp only[Option.some.injEq,Prod.mk.injEq] at H;obtain⟨rfl,rfl⟩:=H;go_enter Tryz.func17,Tryz.ntmps17;go_wp2_with (first|((with_reducible refine gate_dst (N:=4) rfl ?_);refine box_event ?hg (N:=4) ?hd (cs:=#[.int .i64 0,.int .i64 0]) (t:=47) ?hr ?_;(case hd=>rfl);(case hg=>rfl);(case hr=>first|(go_simp;done)|(go_simp;rfl));intro gb101 hg w8 hbox hb;have BK101:=U.mk (hbox);have GW101:=U.mk ((by rw[hg];exact(zq (by solve_by_elim only[HB.out,L,O,J])):w.heap.size≤gb101));have GE101:=GW101;replace HB:=U.mk (qx (by solve_by_elim only[HB.out,L,O,J]) hb);clear hb hbox hg)|((with_reducible refine zx (f:=18) rfl ?_);refine goesL_ (some 8) rfl rfl Tryz.func18 (by kernel_rfl) rfl #[.int .i64 a0] rfl (by(try simp only[jq0,jq1,jq2]);first|done|rfl|(simp only[jq3,jq4];rfl)) ?_;(with_reducible refine(qwv.calls k a0 t102 _ A3.out).mono ?_);rintro e w9 ⟨v103,rfl,ho0,hb⟩;refine⟨_,rfl,?_⟩;have HO104:=U.mk (Kd.R_lower ho0 (zq (by solve_by_elim (maxDepth:=20) only[HB.out,L,O,J,qz,GE101.out])));replace BK101:=U.mk (jx (by solve_by_elim only[BK101.out,qk,qv,qj]) hb);replace HB:=U.mk (qx (by solve_by_elim (maxDepth:=20) only[HB.out,L,O,J,qz,GE101.out]) hb);(try clear hb ho0);obtain⟨Ao10,co10,eo10⟩:=Kd.R_slice HO104.out;subst eo10)|((with_reducible refine zx (f:=39) rfl ?_);refine goesL_ (some 10) rfl rfl Tryz.func39 (by kernel_rfl) rfl #[.slice Ao10 t102.length co10,.slice A1 l1.length c1] rfl (by(try simp only[jq0,jq1,jq2]);first|done|rfl|(simp only[jq3,jq4];rfl)) ?_;(with_reducible refine(qxz.calls k _ _ t102 _ _ l1 t105 _ ?side1 ?side2 ?side3 ?side4 A4.out).mono ?_);(case side1=>solve_by_elim only[(Kd.R_reads' HO104.out).2.2,Kd.C_alloc,Kd.C_drewN,Kd.C_drew]);(case side2=>exact(Kd.R_reads' HO104.out).2.1);(case side3=>solve_by_elim only[(Kd.C_below HR1.out HB.out),Kd.C_alloc,Kd.C_drewN,Kd.C_drew]);(case side4=>exact HC1.out);rintro e w11 ⟨v106,rfl,ho0,hb⟩;refine⟨_,rfl,?_⟩;have HO107:=U.mk (Kd.R_lower (Kd.R_new' ho0 (Kd.R_lt (by solve_by_elim only[HO104.out,Kd.zj,Kd.zz,Kd.zk]))) (zq (by solve_by_elim (maxDepth:=20) only[HB.out,L,O,J,qz,GE101.out])));replace HO104:=U.mk (Kd.R_elder' (by solve_by_elim only[HO104.out,Kd.zj,Kd.zz,Kd.zk]) (Kd.R_base ho0) hb);replace BK101:=U.mk (jx (by solve_by_elim only[BK101.out,qk,qv,qj]) hb);replace HB:=U.mk (qx (by solve_by_elim (maxDepth:=20) only[HB.out,L,O,J,qz,GE101.out]) hb);(try clear hb ho0);obtain⟨Ao12,co12,eo12⟩:=Kd.R_slice HO107.out;subst eo12)|((with_reducible refine zx (f:=38) rfl ?_);refine goesL_ (some 11) rfl rfl Tryz.func38 (by kernel_rfl) rfl #[.slice Ao12 t105.length co12] rfl (by(try simp only[jq0,jq1,jq2]);first|done|rfl|(simp only[jq3,jq4];rfl)) ?_;(with_reducible refine(qxk.calls k _ _ t105 t108 _ ?side1 ?side2 A5.out).mono ?_);(case side1=>solve_by_elim only[(Kd.R_reads' HO107.out).2.2,Kd.C_alloc,Kd.C_drewN,Kd.C_drew]);(case side2=>exact(Kd.R_reads' HO107.out).2.1);rintro e w' ⟨rfl,⟨nd,rfl⟩⟩;refine⟨_,rfl,?_⟩;(try (rw[drewN_self w11];generalize hq_:World.drewN w11 _=w11;have n0_:U (Kd.R (Kd.int .u8) 5 w11 w.heap.size (fun k_=>some k_≠(.slice Ao12 t105.length co12:Value).ownBlock) (.slice Ao10 t102.length co10) t102):=⟨by rw[← hq_];exact(by(with_reducible repeat(first|apply Kd.zj|apply Kd.zz|apply Kd.zk));exact Kd.R_mono HO104.out (fun _ hk=>hk.2))⟩;have n1_:U (Kd.R (Kd.int .u8) 5 w11 w.heap.size (fun k_=>some k_≠(.slice Ao10 t102.length co10:Value).ownBlock) (.slice Ao12 t105.length co12) t105):=⟨by rw[← hq_];exact(by(with_reducible repeat(first|apply Kd.zj|apply Kd.zz|apply Kd.zk));exact Kd.R_mono HO107.out (fun _ hk=>hk.2))⟩;have n2_:U (w11.heap[gb101]? = some (.cells #[.int .i64 0,.int .i64 0] 47 (0,0))):=⟨by rw[← hq_];exact(by solve_by_elim only[BK101.out,qk,qv,qj])⟩;have n3_:U (Below w.heap.size w w11):=⟨by rw[← hq_];exact(by solve_by_elim (maxDepth:=20) only[HB.out,L,O,J,qz,GE101.out])⟩;clear HO104 HO107 BK101 HB hq_;have HO104:=n0_;have HO107:=n1_;have BK101:=n2_;have HB:=n3_;clear n0_ n1_ n2_ n3_)))|((with_reducible refine zx (f:=40) rfl ?_);refine goesL_ (some 15) rfl rfl Tryz.func40 (by kernel_rfl) rfl #[.int .i64 4,.int .i64 (wrap64 (1 + (Int.tmod t108 1073741788))),.int .i64 2147483579] rfl (by(try simp only[jq0,jq1,jq2]);first|done|rfl|(simp only[jq3,jq4];rfl)) ?_;(with_reducible refine(qxv.calls k 4 (wrap64 (1 + (Int.tmod t108 1073741788))) 2147483579 t109 _ A6.out).mono ?_);rintro e w' ⟨rfl,⟨nd,rfl⟩⟩;refine⟨_,rfl,?_⟩;(try (rw[drewN_self w11];generalize hq_:World.drewN w11 _=w11;have n0_:U (Kd.R (Kd.int .u8) 5 w11 w.heap.size (fun k_=>some k_≠(.slice Ao12 t105.length co12:Value).ownBlock) (.slice Ao10 t102.length co10) t102):=⟨by rw[← hq_];exact(by(with_reducible repeat(first|apply Kd.zj|apply Kd.zz|apply Kd.zk));exact Kd.R_mono HO104.out (fun _ hk=>hk.2))⟩;have n1_:U (Kd.R (Kd.int .u8) 5 w11 w.heap.size (fun k_=>some k_≠(.slice Ao10 t102.length co10:Value).ownBlock) (.slice Ao12 t105.length co12) t105):=⟨by rw[← hq_];exact(by(with_reducible repeat(first|apply Kd.zj|apply Kd.zz|apply Kd.zk));exact Kd.R_mono HO107.out (fun _ hk=>hk.2))⟩;have n2_:U (w11.heap[gb101]? = some (.cells #[.int .i64 0,.int .i64 0] 47 (0,0))):=⟨by rw[← hq_];exact(by solve_by_elim only[BK101.out,qk,qv,qj])⟩;have n3_:U (Below w.heap.size w w11):=⟨by rw[← hq_];exact(by solve_by_elim (maxDepth:=20) only[HB.out,L,O,J,qz,GE101.out])⟩;clear HO104 HO107 BK101 HB hq_;have HO104:=n0_;have HO107:=n1_;have BK101:=n2_;have HB:=n3_;clear n0_ n1_ n2_ n3_)))|((with_reducible refine zx (f:=41) rfl ?_);refine goesL_ (some 20) rfl rfl Tryz.func41 (by kernel_rfl) rfl #[.int .i64 t109,.slice A1 l1.length c1] rfl (by(try simp only[jq0,jq1,jq2]);first|done|rfl|(simp only[jq3,jq4];rfl)) ?_;(with_reducible refine(qwx.calls k t109 _ _ l1 t110 _ ?side1 ?side2 A7.out).mono ?_);(case side1=>solve_by_elim only[(Kd.C_below HR1.out HB.out),Kd.C_alloc,Kd.C_drewN,Kd.C_drew]);(case side2=>exact HC1.out);rintro e w13 ⟨rfl,hb⟩;refine⟨_,rfl,?_⟩;replace HO104:=U.mk (Kd.R_below (by solve_by_elim only[HO104.out,Kd.zj,Kd.zz,Kd.zk]) hb);replace HO107:=U.mk (Kd.R_below (by solve_by_elim only[HO107.out,Kd.zj,Kd.zz,Kd.zk]) hb);replace BK101:=U.mk (jx (by solve_by_elim only[BK101.out,qk,qv,qj]) hb);replace HB:=U.mk (qx (by solve_by_elim (maxDepth:=20) only[HB.out,L,O,J,qz,GE101.out]) hb);(try clear hb);obtain⟨y14_0,y14_1,z14_0,z14_1⟩:=bx2f BK101.out))
 refine bodyPost_ret (results_cell_row rfl _ _ gb101 47 #[.int .i64 t109,.int .i64 (Int.tmod (wrap64 ((wrap64 (1 + (Int.tmod t108 1073741788))) + (wrap64 (t110 * a0)))) 1073741789)] (0,0) _ rfl (by(with_reducible repeat(first|refine qk ?_ _|refine qv ?_|refine qj ?_ _));refine blk_put (cs:=#[.int .i64 t109,.int .i64 0]) ?_ 1 _ rfl;(with_reducible repeat(first|refine qk ?_ _|refine qv ?_|refine qj ?_ _));refine blk_put (cs:=#[.int .i64 0,.int .i64 0]) ?_ 0 _ rfl;(with_reducible repeat(first|refine qk ?_ _|refine qv ?_|refine qj ?_ _));exact BK101.out) Tryz.underlying47 rfl (by kernel_rfl)) rfl ?_;exact⟨by first|rfl|(simp[*,zw,zv] <;> rfl),by solve_by_elim (maxDepth:=20) only[HB.out,L,O,J,qz,GE101.out]⟩
end Go.Proofs.YtkcdefnpbnbaeaaGreatDoor.Pr
namespace Go.Proofs.YtkcdefnpbnbaeaaGreatDoor.Pr
open Go.RowKit Go.Proofs.YtkcdefnpbnbaeaaGreatDoorW.PrintWords Go.Proofs.YtkcdefnpbnbaeaaGreatDoorW.PrintLast Go.Proofs.YtkcdefnpbnbaeaaGreatDoorW.PrintMore
attribute [local go_sem] max2_int min2_int max_two min_two max_three min_three max_four min_four
set_option linter.unusedVariables false
set_option linter.unusedSimpArgs false
def qkk.j0:Nat→Int→ByteArray→Bool→Int→Int→Int→ByteArray→ByteArray→List (S30)→List ByteArray→Option (ByteArray)
 | 0,_,_,_,_,_,_,_,_,_,_=>none
 | k + 1,x0,x1,x21,x102000,x102001,x102002,x102003,x102004,x102005,x102006=>if x21=true then(some (⟨#[]⟩ : ByteArray)) else(if 3 + x1.size≤9223372036854775807 then(if ((⟨#[118,49,126]⟩ : ByteArray) ++ x1).size + 1≤9223372036854775807 then((qkv.f k x102000 x102001 x102002 x102003 x102004 x102005 x102006).bind fun t105=>((bytesOfS.f t105).bind fun t106=>((qwk.f k t106).bind fun t109=>(if (((⟨#[118,49,126]⟩ : ByteArray) ++ x1) ++ (⟨#[126]⟩ : ByteArray)).size + t109.size≤9223372036854775807 then((bytesOfS.f ((((⟨#[118,49,126]⟩ : ByteArray) ++ x1) ++ (⟨#[126]⟩ : ByteArray)) ++ t109)).bind fun t110=>((qxx.f k x0 t110).bind fun bt113=>(if ((((⟨#[118,49,126]⟩ : ByteArray) ++ x1) ++ (⟨#[126]⟩ : ByteArray)) ++ t109).size + 1≤9223372036854775807 then((qwv.f k bt113.1).bind fun t116=>((qwv.f k bt113.2).bind fun t119=>(if t116.length + t119.length < 140737488355328 then((qwk.f k (t116 ++ t119)).bind fun t125=>(if (((((⟨#[118,49,126]⟩ : ByteArray) ++ x1) ++ (⟨#[126]⟩ : ByteArray)) ++ t109) ++ (⟨#[126]⟩ : ByteArray)).size + t125.size≤9223372036854775807 then(some ((((((⟨#[118,49,126]⟩ : ByteArray) ++ x1) ++ (⟨#[126]⟩ : ByteArray)) ++ t109) ++ (⟨#[126]⟩ : ByteArray)) ++ t125)) else(none))) else(none)))) else(none)))) else(none))))) else(none)) else(none))
def qkk.f (k:Nat) (a0:Int) (a1:ByteArray) (a2_0:Int) (a2_1:Int) (a2_2:Int) (a2_3:ByteArray) (a2_4:ByteArray) (l2_5:List (S30)) (l2_6:List ByteArray):Option (ByteArray):=(qxw.f a0).bind fun t102=>(if t102=true then((zqj.f k a1).bind fun t103=>(if t103=true then((qkw.f k a2_0 a2_1 a2_2 a2_3 a2_4 l2_5 l2_6).bind fun t104=>(qkk.j0 k a0 a1 (!t104) a2_0 a2_1 a2_2 a2_3 a2_4 l2_5 l2_6)) else(qkk.j0 k a0 a1 true a2_0 a2_1 a2_2 a2_3 a2_4 l2_5 l2_6))) else(qkk.j0 k a0 a1 true a2_0 a2_1 a2_2 a2_3 a2_4 l2_5 l2_6))
def qkk.T5:Bool × List (List Nat × List Nat):=(true,[([],[]),([0],[0]),([],[]),([2],[2]),([3],[3]),([],[]),([5],[5]),([6,4],[6]),([4,7,7],[4,7]),([8,8],[8]),([1,9],[1,9]),([10,9,0,1,2,3,4,5,6,7,8,9,10],[10])])
def qkk.B5:List Nat:=[0,1,0,4,12,0,32,124,252,508,1023,2047]
theorem qkk.tab5:rtab .any (opsOf Tryz.f5 5)=qkk.T5:=by kernel_rfl
theorem qkk.bits5:waitsOk qkk.T5.2 qkk.B5=true:=by kernel_rfl
theorem qkk.calls (k:Nat) (a0:Int) (a1:ByteArray) (a2_0:Int) (a2_1:Int) (a2_2:Int) (a2_3:ByteArray) (a2_4:ByteArray) (A2_5:Option Addr) (c2_5:Nat) (l2_5:List (S30)) (A2_6:Option Addr) (c2_6:Nat) (l2_6:List ByteArray) (r:ByteArray) (w:World) (hr2_5:Kd.C k30 w A2_5 l2_5.length l2_5) (hc2_5:l2_5.length≤c2_5) (hr2_6:Kd.C Kd.string w A2_6 l2_6.length l2_6) (hc2_6:l2_6.length≤c2_6) (h:qkk.f k a0 a1 a2_0 a2_1 a2_2 a2_3 a2_4 l2_5 l2_6=some r) :
  Calls Tryz.prog 5 #[.int .i64 a0,.string a1,.agg #[.int .i64 a2_0,.int .i64 a2_1,.int .i64 a2_2,.string a2_3,.string a2_4,.slice A2_5 l2_5.length c2_5,.slice A2_6 l2_6.length c2_6]] w fun e w'=>e=.returned (.string r)∧Below w.heap.size w w':=by
 have hu33:=Tryz.underlying33;have hu47:=Tryz.underlying47;have HR2_5:=U.mk hr2_5;have HC2_5:=U.mk hc2_5;clear hr2_5 hc2_5;have HR2_6:=U.mk hr2_6;have HC2_6:=U.mk hc2_6;clear hr2_6 hc2_6;have HB:=U.mk (Below.refl w.heap.size w);unfold qkk.f at h;have H:=h;clear h;have HC4:=U.mk H;clear H;go_enter Tryz.func5,Tryz.ntmps5;go_upto_region 1 with (first|((with_reducible refine gate_dst (N:=5) rfl ?_);refine box_event ?hg (N:=5) ?hd (cs:=#[.int .i64 a2_0,.int .i64 a2_1,.int .i64 a2_2,.string a2_3,.string a2_4,.slice A2_5 l2_5.length c2_5,.slice A2_6 l2_6.length c2_6]) (t:=33) ?hr ?_;(case hd=>rfl);(case hg=>rfl);(case hr=>first|(go_simp;done)|(go_simp;rfl));intro gb101 hg w5 hbox hb;have BK101:=U.mk (hbox);have GW101:=U.mk ((by rw[hg];exact(zq (by solve_by_elim only[HB.out,L,O,J])):w.heap.size≤gb101));have GE101:=GW101;replace HB:=U.mk (qx (by solve_by_elim only[HB.out,L,O,J]) hb);clear hb hbox hg))
 (try simp only[Act.put,jq5,jq6,jq7])
 go_cut [21] (fun v21 wc=>∃ (kq:Nat) (x21_3:Bool),v21=.bool x21_3∧U (qkk.j0 kq a0 a1 x21_3 a2_0 a2_1 a2_2 a2_3 a2_4 l2_5 l2_6=some r)∧U (kq≤k)∧U (wc.heap[gb101]? = some (.cells #[.int .i64 a2_0,.int .i64 a2_1,.int .i64 a2_2,.string a2_3,.string a2_4,(.slice A2_5 l2_5.length c2_5),(.slice A2_6 l2_6.length c2_6)] 33 (0,0)))∧U (Below w.heap.size w wc))
 case first =>
  have H:=HC4.out;clear HC4;replace H:=jq8.mp H;obtain⟨t102,A60,H⟩:=H;try dsimp only at H
  have A6:=U.mk A60;clear A60
  by_cases c7:t102=true
  ·subst c7;have H1:((zqj.f k a1).bind fun t103=>(if t103=true then((qkw.f k a2_0 a2_1 a2_2 a2_3 a2_4 l2_5 l2_6).bind fun t104=>(qkk.j0 k a0 a1 (!t104) a2_0 a2_1 a2_2 a2_3 a2_4 l2_5 l2_6)) else(qkk.j0 k a0 a1 true a2_0 a2_1 a2_2 a2_3 a2_4 l2_5 l2_6)))=some r:=by rw[if_pos rfl] at H;exact H
   clear H;have H:=H1;clear H1;replace H:=jq8.mp H;obtain⟨t103,A80,H⟩:=H;try dsimp only at H
   have A8:=U.mk A80;clear A80
   by_cases c9:t103=true
   ·subst c9;have H1:((qkw.f k a2_0 a2_1 a2_2 a2_3 a2_4 l2_5 l2_6).bind fun t104=>(qkk.j0 k a0 a1 (!t104) a2_0 a2_1 a2_2 a2_3 a2_4 l2_5 l2_6))=some r:=by rw[if_pos rfl] at H;exact H
    clear H;have H:=H1;clear H1;replace H:=jq8.mp H;obtain⟨t104,A100,H⟩:=H;try dsimp only at H
    have A10:=U.mk A100;clear A100;have H':=U.mk H;clear H;go_wp2_with (first|((with_reducible refine zx (f:=12) rfl ?_);refine goesL_ (some 10) rfl rfl Tryz.func12 (by kernel_rfl) rfl #[.int .i64 a0] rfl (by(try simp only[jq0,jq1,jq2]);first|done|rfl|(simp only[jq3,jq4];rfl)) ?_;(with_reducible refine(qxw.calls a0 true _ A6.out).mono ?_);rintro e w' ⟨rfl,⟨nd,rfl⟩⟩;refine⟨_,rfl,?_⟩)|(go_at_call 13;(with_reducible refine(zqj.calls k a1 true _ A8.out).mono ?_);rintro e w' ⟨rfl,⟨nd,rfl⟩⟩;obtain⟨y11_0,y11_1,y11_2,y11_3,y11_4,y11_5,y11_6,z11_0,z11_1,z11_2,z11_3,z11_4,z11_5,z11_6⟩:=bx7f BK101.out)|(go_at_call 14;(with_reducible refine(qkw.calls k a2_0 a2_1 a2_2 a2_3 a2_4 _ _ l2_5 _ _ l2_6 t104 _ ?side1 ?side2 ?side3 ?side4 A10.out).mono ?_);(case side1=>repeat(first|exact(Kd.C_below HR2_5.out (by solve_by_elim (maxDepth:=20) only[HB.out,L,O,J,qz,GE101.out]))|(with_reducible refine Kd.C_alloc ?_ _)|(with_reducible refine Kd.C_drewN ?_ _)|(with_reducible refine Kd.C_drew ?_)));(case side2=>exact HC2_5.out);(case side3=>repeat(first|exact(Kd.C_below HR2_6.out (by solve_by_elim (maxDepth:=20) only[HB.out,L,O,J,qz,GE101.out]))|(with_reducible refine Kd.C_alloc ?_ _)|(with_reducible refine Kd.C_drewN ?_ _)|(with_reducible refine Kd.C_drew ?_)));(case side4=>exact HC2_6.out);rintro e w12 ⟨rfl,hb⟩;replace BK101:=U.mk (jx (by solve_by_elim only[BK101.out,qk,qv,qj]) hb);replace HB:=U.mk (qx (by solve_by_elim (maxDepth:=20) only[HB.out,L,O,J,qz,GE101.out]) hb);(try clear hb)))
    go_meet
    case rel=>exact⟨_,(!t104),(by first|rfl|(simp;done)|(simp[*];done)),H',⟨by first|omega|exact Nat.le_refl _⟩,⟨by(with_reducible repeat(first|refine qk ?_ _|refine qv ?_|refine qj ?_ _));exact BK101.out⟩,⟨by solve_by_elim (maxDepth:=20) only[HB.out,L,O,J,qz,GE101.out]⟩⟩
   ·replace c9:=jq9.mpr c9;subst c9;have H1:(qkk.j0 k a0 a1 true a2_0 a2_1 a2_2 a2_3 a2_4 l2_5 l2_6)=some r:=by rw[if_neg (show ¬ (false=true) by decide)] at H;exact H
    clear H;have H:=H1;clear H1;have H':=U.mk H;clear H;go_wp2_with (first|((with_reducible refine zx (f:=12) rfl ?_);refine goesL_ (some 10) rfl rfl Tryz.func12 (by kernel_rfl) rfl #[.int .i64 a0] rfl (by(try simp only[jq0,jq1,jq2]);first|done|rfl|(simp only[jq3,jq4];rfl)) ?_;(with_reducible refine(qxw.calls a0 true _ A6.out).mono ?_);rintro e w' ⟨rfl,⟨nd,rfl⟩⟩;refine⟨_,rfl,?_⟩)|(go_at_call 13;(with_reducible refine(zqj.calls k a1 false _ A8.out).mono ?_);rintro e w' ⟨rfl,⟨nd,rfl⟩⟩))
    go_meet
    case rel=>exact⟨_,(true),(by first|rfl|(simp;done)|(simp[*];done)),H',⟨by first|omega|exact Nat.le_refl _⟩,⟨by(with_reducible repeat(first|refine qk ?_ _|refine qv ?_|refine qj ?_ _));exact BK101.out⟩,⟨by solve_by_elim (maxDepth:=20) only[HB.out,L,O,J,qz,GE101.out]⟩⟩
  ·replace c7:=jq9.mpr c7;subst c7;have H1:(qkk.j0 k a0 a1 true a2_0 a2_1 a2_2 a2_3 a2_4 l2_5 l2_6)=some r:=by rw[if_neg (show ¬ (false=true) by decide)] at H;exact H
   clear H;have H:=H1;clear H1;have H':=U.mk H;clear H;go_wp2_with (first|((with_reducible refine zx (f:=12) rfl ?_);refine goesL_ (some 10) rfl rfl Tryz.func12 (by kernel_rfl) rfl #[.int .i64 a0] rfl (by(try simp only[jq0,jq1,jq2]);first|done|rfl|(simp only[jq3,jq4];rfl)) ?_;(with_reducible refine(qxw.calls a0 false _ A6.out).mono ?_);rintro e w' ⟨rfl,⟨nd,rfl⟩⟩;refine⟨_,rfl,?_⟩))
   go_meet
   case rel=>exact⟨_,(true),(by first|rfl|(simp;done)|(simp[*];done)),H',⟨by first|omega|exact Nat.le_refl _⟩,⟨by(with_reducible repeat(first|refine qk ?_ _|refine qv ?_|refine qj ?_ _));exact BK101.out⟩,⟨by solve_by_elim (maxDepth:=20) only[HB.out,L,O,J,qz,GE101.out]⟩⟩
 case rest =>
  clear HC4;try clear c1
  try clear c2
  try clear p2
  try clear c5
  try clear c7
  try clear c9
  try clear c12
  try clear y11_0 y11_1 y11_2 y11_3 y11_4 y11_5 y11_6 z11_0 z11_1 z11_2 z11_3 z11_4 z11_5 z11_6
  obtain⟨kq,x21_3,rfl,HA,HJ3,BK101,HB⟩:=hcut
  cases kq with
  | zero=>exact absurd HA.out (by simp[qkk.j0])
  | succ kj3 =>
   have H:=HA.out;clear HA;simp only[qkk.j0] at H
   by_cases c13:x21_3=true
   ·subst c13;have H1:(some (⟨#[]⟩ : ByteArray))=some r:=by rw[if_pos rfl] at H;exact H
    clear H;have H:=H1;clear H1;obtain rfl:=Option.some.inj H;go_wp2;go_ret
    exact⟨by first|rfl|(simp[*,zw,zv] <;> rfl),by solve_by_elim (maxDepth:=20) only[HB.out,L,O,J,qz,GE101.out]⟩
   ·replace c13:=jq9.mpr c13;subst c13;have H1:(if 3 + a1.size≤9223372036854775807 then(if ((⟨#[118,49,126]⟩ : ByteArray) ++ a1).size + 1≤9223372036854775807 then((qkv.f kj3 a2_0 a2_1 a2_2 a2_3 a2_4 l2_5 l2_6).bind fun t105=>((bytesOfS.f t105).bind fun t106=>((qwk.f kj3 t106).bind fun t109=>(if (((⟨#[118,49,126]⟩ : ByteArray) ++ a1) ++ (⟨#[126]⟩ : ByteArray)).size + t109.size≤9223372036854775807 then((bytesOfS.f ((((⟨#[118,49,126]⟩ : ByteArray) ++ a1) ++ (⟨#[126]⟩ : ByteArray)) ++ t109)).bind fun t110=>((qxx.f kj3 a0 t110).bind fun bt113=>(if ((((⟨#[118,49,126]⟩ : ByteArray) ++ a1) ++ (⟨#[126]⟩ : ByteArray)) ++ t109).size + 1≤9223372036854775807 then((qwv.f kj3 bt113.1).bind fun t116=>((qwv.f kj3 bt113.2).bind fun t119=>(if t116.length + t119.length < 140737488355328 then((qwk.f kj3 (t116 ++ t119)).bind fun t125=>(if (((((⟨#[118,49,126]⟩ : ByteArray) ++ a1) ++ (⟨#[126]⟩ : ByteArray)) ++ t109) ++ (⟨#[126]⟩ : ByteArray)).size + t125.size≤9223372036854775807 then(some ((((((⟨#[118,49,126]⟩ : ByteArray) ++ a1) ++ (⟨#[126]⟩ : ByteArray)) ++ t109) ++ (⟨#[126]⟩ : ByteArray)) ++ t125)) else(none))) else(none)))) else(none)))) else(none))))) else(none)) else(none))=some r:=by rw[if_neg (show ¬ (false=true) by decide)] at H;exact H
    clear H;have H:=H1;clear H1
    by_cases c14 : 3 + a1.size≤9223372036854775807
    ·rw[if_pos c14] at H;have c14b0:=eq_true c14;have c14b1:decide (3 + a1.size≤9223372036854775807)=true:=decide_eq_true c14;try have c14b2:(9223372036854775807 < 3 + a1.size)=False:=eq_false (Nat.not_lt.2 c14)
     by_cases c15:((⟨#[118,49,126]⟩ : ByteArray) ++ a1).size + 1≤9223372036854775807
     ·rw[if_pos c15] at H;have c15b0:=eq_true c15;have c15b1:decide (((⟨#[118,49,126]⟩ : ByteArray) ++ a1).size + 1≤9223372036854775807)=true:=decide_eq_true c15;try have c15b2:(9223372036854775807 < ((⟨#[118,49,126]⟩ : ByteArray) ++ a1).size + 1)=False:=eq_false (Nat.not_lt.2 c15)
      try (have c15b9:=c15b2;simp only[ByteArray.size_append,show(⟨#[118,49,126]⟩ : ByteArray).size=3 from rfl] at c15b9)
      replace H:=jq8.mp H;obtain⟨t105,A160,H⟩:=H;try dsimp only at H
      have A16:=U.mk A160;clear A160;replace H:=jq8.mp H;obtain⟨t106,A170,H⟩:=H;try dsimp only at H
      have A17:=U.mk A170;clear A170;replace H:=jq8.mp H;obtain⟨t109,A180,H⟩:=H;try dsimp only at H
      have A18:=U.mk A180;clear A180
      by_cases c19:(((⟨#[118,49,126]⟩ : ByteArray) ++ a1) ++ (⟨#[126]⟩ : ByteArray)).size + t109.size≤9223372036854775807
      ·rw[if_pos c19] at H;have c19b0:=eq_true c19;have c19b1:decide ((((⟨#[118,49,126]⟩ : ByteArray) ++ a1) ++ (⟨#[126]⟩ : ByteArray)).size + t109.size≤9223372036854775807)=true:=decide_eq_true c19;try have c19b2:(9223372036854775807 < (((⟨#[118,49,126]⟩ : ByteArray) ++ a1) ++ (⟨#[126]⟩ : ByteArray)).size + t109.size)=False:=eq_false (Nat.not_lt.2 c19)
       try (have c19b9:=c19b2;simp only[ByteArray.size_append,show(⟨#[118,49,126]⟩ : ByteArray).size=3 from rfl,show(⟨#[126]⟩ : ByteArray).size=1 from rfl] at c19b9)
       replace H:=jq8.mp H;obtain⟨t110,A200,H⟩:=H;try dsimp only at H
       have A20:=U.mk A200;clear A200;replace H:=jq8.mp H;obtain⟨⟨t113,t114⟩,A210,H⟩:=H;try dsimp only at H
       have A21:=U.mk A210;clear A210
       by_cases c22:((((⟨#[118,49,126]⟩ : ByteArray) ++ a1) ++ (⟨#[126]⟩ : ByteArray)) ++ t109).size + 1≤9223372036854775807
       ·rw[if_pos c22] at H;have c22b0:=eq_true c22;have c22b1:decide (((((⟨#[118,49,126]⟩ : ByteArray) ++ a1) ++ (⟨#[126]⟩ : ByteArray)) ++ t109).size + 1≤9223372036854775807)=true:=decide_eq_true c22;try have c22b2:(9223372036854775807 < ((((⟨#[118,49,126]⟩ : ByteArray) ++ a1) ++ (⟨#[126]⟩ : ByteArray)) ++ t109).size + 1)=False:=eq_false (Nat.not_lt.2 c22)
        try (have c22b9:=c22b2;simp only[ByteArray.size_append,show(⟨#[118,49,126]⟩ : ByteArray).size=3 from rfl,show(⟨#[126]⟩ : ByteArray).size=1 from rfl] at c22b9)
        replace H:=jq8.mp H;obtain⟨t116,A230,H⟩:=H;try dsimp only at H
        have A23:=U.mk A230;clear A230;replace H:=jq8.mp H;obtain⟨t119,A240,H⟩:=H;try dsimp only at H
        have A24:=U.mk A240;clear A240
        by_cases c25:t116.length + t119.length < 140737488355328
        ·rw[if_pos c25] at H;have LMc25:=U.mk c25;clear c25;obtain⟨y122,hy122⟩ : ∃ y_:List Int,y_=(t116 ++ t119):=⟨_,rfl⟩;replace H:((qwk.f kj3 y122).bind fun t125=>(if (((((⟨#[118,49,126]⟩ : ByteArray) ++ a1) ++ (⟨#[126]⟩ : ByteArray)) ++ t109) ++ (⟨#[126]⟩ : ByteArray)).size + t125.size≤9223372036854775807 then(some ((((((⟨#[118,49,126]⟩ : ByteArray) ++ a1) ++ (⟨#[126]⟩ : ByteArray)) ++ t109) ++ (⟨#[126]⟩ : ByteArray)) ++ t125)) else(none)))=some r:=by first|(rw[hy122];with_reducible exact H)|(have H2_:=(Option.bind_some _ _).symm.trans H;rw[hy122];with_reducible exact H2_)|(have H2_:=(Option.bind_some _ _).symm.trans H;with_reducible exact H2_)|with_reducible exact H|(rw[hy122];exact H)|exact H
         have Ny122:=U.mk hy122;clear hy122;replace H:=jq8.mp H;obtain⟨t125,A260,H⟩:=H;try dsimp only at H
         have A26:=U.mk A260;clear A260
         by_cases c27:(((((⟨#[118,49,126]⟩ : ByteArray) ++ a1) ++ (⟨#[126]⟩ : ByteArray)) ++ t109) ++ (⟨#[126]⟩ : ByteArray)).size + t125.size≤9223372036854775807
         ·rw[if_pos c27] at H;have c27b0:=eq_true c27;have c27b1:decide ((((((⟨#[118,49,126]⟩ : ByteArray) ++ a1) ++ (⟨#[126]⟩ : ByteArray)) ++ t109) ++ (⟨#[126]⟩ : ByteArray)).size + t125.size≤9223372036854775807)=true:=decide_eq_true c27;try have c27b2:(9223372036854775807 < (((((⟨#[118,49,126]⟩ : ByteArray) ++ a1) ++ (⟨#[126]⟩ : ByteArray)) ++ t109) ++ (⟨#[126]⟩ : ByteArray)).size + t125.size)=False:=eq_false (Nat.not_lt.2 c27)
          try (have c27b9:=c27b2;simp only[ByteArray.size_append,show(⟨#[118,49,126]⟩ : ByteArray).size=3 from rfl,show(⟨#[126]⟩ : ByteArray).size=1 from rfl] at c27b9)
          obtain rfl:=Option.some.inj H;obtain⟨y28_0,y28_1,y28_2,y28_3,y28_4,y28_5,y28_6,z28_0,z28_1,z28_2,z28_3,z28_4,z28_5,z28_6⟩:=bx7f BK101.out;try go_wp2_with (first|((with_reducible refine zx (f:=16) rfl ?_);refine goesL_ (some 26) rfl rfl Tryz.func16 (by kernel_rfl) rfl #[.agg #[.int .i64 a2_0,.int .i64 a2_1,.int .i64 a2_2,.string a2_3,.string a2_4,.slice A2_5 l2_5.length c2_5,.slice A2_6 l2_6.length c2_6]] rfl (by(try simp only[jq0,jq1,jq2]);first|done|rfl|(simp only[jq3,jq4];rfl)) ?_;(with_reducible refine(qkv.calls kj3 a2_0 a2_1 a2_2 a2_3 a2_4 _ _ l2_5 _ _ l2_6 t105 _ ?side1 ?side2 ?side3 ?side4 A16.out).mono ?_);(case side1=>solve_by_elim only[(Kd.C_below HR2_5.out HB.out),Kd.C_alloc,Kd.C_drewN,Kd.C_drew]);(case side2=>exact HC2_5.out);(case side3=>solve_by_elim only[(Kd.C_below HR2_6.out HB.out),Kd.C_alloc,Kd.C_drewN,Kd.C_drew]);(case side4=>exact HC2_6.out);rintro e w29 ⟨rfl,hb⟩;refine⟨_,rfl,?_⟩;replace BK101:=U.mk (jx (by solve_by_elim only[BK101.out,qk,qv,qj]) hb);replace HB:=U.mk (qx (by solve_by_elim (maxDepth:=20) only[HB.out,L,O,J,qz,GE101.out]) hb);(try clear hb))|((with_reducible refine gate_convert (src:=9) (dst:=44) rfl ?_);refine bytesGoesL_ (some 27) rfl rfl (s:=t105) rfl rfl ?_;(with_reducible refine(bytesOfS.calls t105 t106 _ A17.out).mono ?_);rintro e w30 ⟨v107,rfl,ho0,hb⟩;refine⟨_,rfl,?_⟩;have HO108:=U.mk (Kd.V_lower (Kd.V_mono (ok':=fun k_=>k_≠gb101) ho0 (fun k_ hk_=>(Kd.freshB (g:=gb101) (o:=.cells #[.int .i64 a2_0,.int .i64 a2_1,.int .i64 a2_2,.string a2_3,.string a2_4,.slice A2_5 l2_5.length c2_5,.slice A2_6 l2_6.length c2_6] 33 (0,0)) (by solve_by_elim only[BK101.out,qk,qv,qj]) k_ hk_))) (zq (by solve_by_elim (maxDepth:=20) only[HB.out,L,O,J,qz,GE101.out])));replace BK101:=U.mk (jx (by solve_by_elim only[BK101.out,qk,qv,qj]) hb);replace HB:=U.mk (qx (by solve_by_elim (maxDepth:=20) only[HB.out,L,O,J,qz,GE101.out]) hb);(try clear hb ho0);obtain⟨Ao31,co31,eo31⟩:=Kd.V_slice HO108.out;subst eo31)|((with_reducible refine zx (f:=15) rfl ?_);refine goesL_ (some 28) rfl rfl Tryz.func15 (by kernel_rfl) rfl #[.slice Ao31 t106.length co31] rfl (by(try simp only[jq0,jq1,jq2]);first|done|rfl|(simp only[jq3,jq4];rfl)) ?_;(with_reducible refine(qwk.calls kj3 _ _ t106 t109 _ ?side1 ?side2 A18.out).mono ?_);(case side1=>solve_by_elim only[(Kd.V_reads' HO108.out).2.2,Kd.C_alloc,Kd.C_drewN,Kd.C_drew]);(case side2=>exact(Kd.V_reads' HO108.out).2.1);rintro e w32 ⟨rfl,hb⟩;refine⟨_,rfl,?_⟩;replace HO108:=U.mk (Kd.V_below (by(with_reducible repeat(first|apply Kd.jv|apply Kd.jk|apply Kd.jw));exact HO108.out) hb);replace BK101:=U.mk (jx (by solve_by_elim only[BK101.out,qk,qv,qj]) hb);replace HB:=U.mk (qx (by solve_by_elim (maxDepth:=20) only[HB.out,L,O,J,qz,GE101.out]) hb);(try clear hb))|((with_reducible refine gate_convert (src:=9) (dst:=44) rfl ?_);refine bytesGoesL_ (some 32) rfl rfl (s:=((((⟨#[118,49,126]⟩ : ByteArray) ++ a1) ++ (⟨#[126]⟩ : ByteArray)) ++ t109)) rfl rfl ?_;(with_reducible refine(bytesOfS.calls ((((⟨#[118,49,126]⟩ : ByteArray) ++ a1) ++ (⟨#[126]⟩ : ByteArray)) ++ t109) t110 _ A20.out).mono ?_);rintro e w33 ⟨v111,rfl,ho0,hb⟩;refine⟨_,rfl,?_⟩;replace HO108:=U.mk (Kd.V_below (by(with_reducible repeat(first|apply Kd.jv|apply Kd.jk|apply Kd.jw));exact HO108.out) hb);have HO112:=U.mk (Kd.V_lower (Kd.V_mono (ok':=fun k_=>k_≠gb101) ho0 (fun k_ hk_=>(Kd.freshB (g:=gb101) (o:=.cells #[.int .i64 a2_0,.int .i64 a2_1,.int .i64 a2_2,.string a2_3,.string a2_4,.slice A2_5 l2_5.length c2_5,.slice A2_6 l2_6.length c2_6] 33 (0,0)) (by solve_by_elim only[BK101.out,qk,qv,qj]) k_ hk_))) (zq (by solve_by_elim (maxDepth:=20) only[HB.out,L,O,J,qz,GE101.out])));replace BK101:=U.mk (jx (by solve_by_elim only[BK101.out,qk,qv,qj]) hb);replace HB:=U.mk (qx (by solve_by_elim (maxDepth:=20) only[HB.out,L,O,J,qz,GE101.out]) hb);(try clear hb ho0);obtain⟨Ao34,co34,eo34⟩:=Kd.V_slice HO112.out;subst eo34)|((with_reducible refine zx (f:=17) rfl ?_);refine goesL_ (some 33) rfl rfl Tryz.func17 (by kernel_rfl) rfl #[.int .i64 a0,.slice Ao34 t110.length co34] rfl (by(try simp only[jq0,jq1,jq2]);first|done|rfl|(simp only[jq3,jq4];rfl)) ?_;(with_reducible refine(qxx.calls kj3 a0 _ _ t110 t113 t114 _ ?side1 ?side2 A21.out).mono ?_);(case side1=>solve_by_elim only[(Kd.V_reads' HO112.out).2.2,Kd.C_alloc,Kd.C_drewN,Kd.C_drew]);(case side2=>exact(Kd.V_reads' HO112.out).2.1);rintro e w35 ⟨rfl,hb⟩;refine⟨_,rfl,?_⟩;replace HO108:=U.mk (Kd.V_below (by(with_reducible repeat(first|apply Kd.jv|apply Kd.jk|apply Kd.jw));exact HO108.out) hb);replace HO112:=U.mk (Kd.V_below (by(with_reducible repeat(first|apply Kd.jv|apply Kd.jk|apply Kd.jw));exact HO112.out) hb);replace BK101:=U.mk (jx (by solve_by_elim only[BK101.out,qk,qv,qj]) hb);replace HB:=U.mk (qx (by solve_by_elim (maxDepth:=20) only[HB.out,L,O,J,qz,GE101.out]) hb);(try clear hb))|((with_reducible refine gate_dst (N:=8) rfl ?_);refine box_event ?hg (N:=8) ?hd (cs:=#[.int .i64 0,.int .i64 0]) (t:=47) ?hr ?_;(case hd=>rfl);(case hg=>rfl);(case hr=>first|(go_simp;done)|(go_simp;rfl));intro gb115 hg w36 hbox hb;replace HO108:=U.mk (Kd.V_below (Kd.V_elderB (by(with_reducible repeat(first|apply Kd.jv|apply Kd.jk|apply Kd.jw));exact HO108.out) gb115 (Nat.le_of_eq hg.symm)) hb);replace HO112:=U.mk (Kd.V_below (Kd.V_elderB (by(with_reducible repeat(first|apply Kd.jv|apply Kd.jk|apply Kd.jw));exact HO112.out) gb115 (Nat.le_of_eq hg.symm)) hb);have BK115:=U.mk (hbox);have GW115:=U.mk ((by rw[hg];exact(zq (by solve_by_elim (maxDepth:=20) only[HB.out,L,O,J,qz,GE101.out])):w.heap.size≤gb115));have GE115:=GW115;replace HB:=U.mk (qx (by solve_by_elim (maxDepth:=20) only[HB.out,L,O,J,qz,GE101.out]) hb);have NB101_115:=U.mk ((by rw[hg];exact Nat.ne_of_lt (blk_lt (by solve_by_elim only[BK101.out,qk,qv,qj])):gb101≠gb115));have NB115_101:=U.mk ((by rw[hg];exact Nat.ne_of_gt (blk_lt (by solve_by_elim only[BK101.out,qk,qv,qj])):gb115≠gb101));replace BK101:=U.mk (jx (by solve_by_elim only[BK101.out,qk,qv,qj]) hb);clear hb hbox hg;have hnb37:=NB115_101.out;have hnc37:=NB101_115.out;obtain⟨y38_0,y38_1,z38_0,z38_1⟩:=bx2f BK115.out))
          have n0_:U (Kd.V (Kd.int .u8) 5 ((w36.setCell ⟨gb115,0,none⟩ (.int .i64 t113)).setCell ⟨gb115,1,none⟩ (.int .i64 t114)) w.heap.size (fun k_=>k_≠gb101∧k_≠gb115) (.slice Ao31 t106.length co31) t106):=⟨by(with_reducible repeat(first|apply Kd.jv|apply Kd.jk|apply Kd.jw));exact Kd.V_mono (Kd.V_far (p:=⟨gb115,1,none⟩) (Kd.V_far (p:=⟨gb115,0,none⟩) (Kd.V_mono HO108.out (fun k_ hk=>(⟨hk,hk.2⟩ : _∧k_≠gb115))) (fun _ hk=>hk.2) (.int .i64 t113)) (fun _ hk=>hk.2) (.int .i64 t114)) (fun _ hk=>⟨hk.1.1,hk.1.2⟩)⟩;have n1_:U (Kd.V (Kd.int .u8) 5 ((w36.setCell ⟨gb115,0,none⟩ (.int .i64 t113)).setCell ⟨gb115,1,none⟩ (.int .i64 t114)) w.heap.size (fun k_=>k_≠gb101∧k_≠gb115) (.slice Ao34 t110.length co34) t110):=⟨by(with_reducible repeat(first|apply Kd.jv|apply Kd.jk|apply Kd.jw));exact Kd.V_mono (Kd.V_far (p:=⟨gb115,1,none⟩) (Kd.V_far (p:=⟨gb115,0,none⟩) (Kd.V_mono HO112.out (fun k_ hk=>(⟨hk,hk.2⟩ : _∧k_≠gb115))) (fun _ hk=>hk.2) (.int .i64 t113)) (fun _ hk=>hk.2) (.int .i64 t114)) (fun _ hk=>⟨hk.1.1,hk.1.2⟩)⟩;have n2_:U (((w36.setCell ⟨gb115,0,none⟩ (.int .i64 t113)).setCell ⟨gb115,1,none⟩ (.int .i64 t114)).heap[gb101]? = some (.cells #[.int .i64 a2_0,.int .i64 a2_1,.int .i64 a2_2,.string a2_3,.string a2_4,.slice A2_5 l2_5.length c2_5,.slice A2_6 l2_6.length c2_6] 33 (0,0))):=⟨by(with_reducible repeat(first|refine qk ?_ _|refine qv ?_|refine qj ?_ _));refine blk_far ?_ NB101_115.out _;(with_reducible repeat(first|refine qk ?_ _|refine qv ?_|refine qj ?_ _));refine blk_far ?_ NB101_115.out _;(with_reducible repeat(first|refine qk ?_ _|refine qv ?_|refine qj ?_ _));exact BK101.out⟩;have n3_:U (((w36.setCell ⟨gb115,0,none⟩ (.int .i64 t113)).setCell ⟨gb115,1,none⟩ (.int .i64 t114)).heap[gb115]? = some (.cells #[.int .i64 t113,.int .i64 t114] 47 (0,0))):=⟨by(with_reducible repeat(first|refine qk ?_ _|refine qv ?_|refine qj ?_ _));refine blk_put (cs:=#[.int .i64 t113,.int .i64 0]) ?_ 1 _ rfl;(with_reducible repeat(first|refine qk ?_ _|refine qv ?_|refine qj ?_ _));refine blk_put (cs:=#[.int .i64 0,.int .i64 0]) ?_ 0 _ rfl;(with_reducible repeat(first|refine qk ?_ _|refine qv ?_|refine qj ?_ _));exact BK115.out⟩;have n4_:U (Below w.heap.size w ((w36.setCell ⟨gb115,0,none⟩ (.int .i64 t113)).setCell ⟨gb115,1,none⟩ (.int .i64 t114))):=⟨by repeat(first|(with_reducible first|exact HB.out|apply L|apply O|apply J|refine qz ?_ GE101.out|refine qz ?_ GE115.out)|exact HB.out)⟩
          (try clear HO108)
          (try clear HO112)
          (try clear BK101)
          (try clear BK115)
          (try clear HB)
          generalize ((w36.setCell ⟨gb115,0,none⟩ (.int .i64 t113)).setCell ⟨gb115,1,none⟩ (.int .i64 t114))=w39 at n0_ n1_ n2_ n3_ n4_ ⊢;have HO108:=n0_;have HO112:=n1_;have BK101:=n2_;have BK115:=n3_;have HB:=n4_;clear n0_ n1_ n2_ n3_ n4_;replace HO108:=U.mk (Kd.jw HO108.out);replace HO112:=U.mk (Kd.jw HO112.out);replace BK101:=U.mk (qv BK101.out);replace BK115:=U.mk (qv BK115.out);replace HB:=U.mk (J HB.out);refine start_ (n:=12) (S:=fun w'=>w'.cell? ⟨gb115,0,none⟩ = some (.int .i64 t113)∧w'.cell? ⟨gb115,1,none⟩ = some (.int .i64 t114)) (ds:=[]) #[Y,Y,Y,Y,Y,Y,Y,Y,Y,Y,Y,Y] (by kernel_rfl) rfl rfl ⟨(qq BK115.out 0).trans rfl,(qq BK115.out 1).trans rfl⟩ (fun hHeld=>?_);refine with_tabW qkk.tab5 qkk.bits5 (fun HT_ HW_=>?_)
          generalize w39.drew=w40 at HO108 HO112 BK101 BK115 HB hHeld ⊢;refine pure_ (i:=0) (N:=some 34) (v:=?_) (a':=?_) #[Z,Y,Y,Y,Y,Y,Y,Y,Y,Y,Y,Y] rfl rfl (any_of HT_.out (by kernel_rfl)) (fun _ _ _ h=>h) (Or.inl ⟨by rfl,?_⟩) ?_ ?_;rotate_left
          ·intro w'
           go_simp
           with_reducible rfl
          rotate_left
          ·simp only[Act.put,jq5,jq6,jq7,i64_w,i32_w]
           rfl
          refine pure_ (i:=1) (N:=some 35) (v:=?_) (a':=?_) #[Z,Z,Y,Y,Y,Y,Y,Y,Y,Y,Y,Y] rfl rfl (any_of HT_.out (by kernel_rfl)) (fun _ _ _ h=>h) (Or.inl ⟨by rfl,?_⟩) ?_ ?_;rotate_left
          ·intro w'
           go_simp
           with_reducible rfl
          rotate_left
          ·simp only[Act.put,jq5,jq6,jq7,i64_w,i32_w]
           rfl
          refine pure_ (i:=2) (N:=some 36) (v:=?_) (a':=?_) #[Z,Z,Z,Y,Y,Y,Y,Y,Y,Y,Y,Y] rfl rfl (any_of HT_.out (by kernel_rfl)) (fun _ _ _ h=>h) (Or.inl ⟨by rfl,?_⟩) ?_ ?_;rotate_left
          ·intro w'
           go_simp
           with_reducible rfl
          rotate_left
          ·simp only[Act.put,jq5,jq6,jq7,i64_w,i32_w]
           rfl
          refine pure_ (i:=5) (N:=some 39) (v:=?_) (a':=?_) #[Z,Z,Z,Y,Y,Z,Y,Y,Y,Y,Y,Y] rfl rfl (any_of HT_.out (by kernel_rfl)) (fun _ _ _ h=>h) (Or.inl ⟨by rfl,?_⟩) ?_ ?_;rotate_left
          ·intro w'
           go_simp
           with_reducible rfl
          rotate_left
          ·simp only[Act.put,jq5,jq6,jq7,i64_w,i32_w]
           rfl
          refine take_ (i:=3) (N:=some 37) (v:=?_) (a':=?_) #[Z,Z,Z,Z,Y,Z,Y,Y,Y,Y,Y,Y] rfl rfl (take_ofW HT_.out HW_.out (by kernel_rfl)) (fun _ _ _ h=>h) (Or.inl ⟨by rfl,?_⟩) hHeld ?_ ?_;rotate_left
          ·rintro w' ⟨s0,s1⟩
           go_simp
           with_reducible rfl
          rotate_left
          ·simp only[Act.put,jq5,jq6,jq7,i64_w,i32_w]
           rfl
          refine take_ (i:=6) (N:=some 40) (v:=?_) (a':=?_) #[Z,Z,Z,Z,Y,Z,Z,Y,Y,Y,Y,Y] rfl rfl (take_ofW HT_.out HW_.out (by kernel_rfl)) (fun _ _ _ h=>h) (Or.inl ⟨by rfl,?_⟩) hHeld ?_ ?_;rotate_left
          ·rintro w' ⟨s0,s1⟩
           go_simp
           with_reducible rfl
          rotate_left
          ·simp only[Act.put,jq5,jq6,jq7,i64_w,i32_w]
           rfl
          refine one_ (i:=4) (N:=some 38) #[Z,Z,Z,Z,Z,Z,Z,Y,Y,Y,Y,Y] rfl rfl (one_of HT_.out (by kernel_rfl)) (by decide) (fun K hK=>?_);refine goes_ Tryz.func18 (by kernel_rfl) rfl #[.int .i64 t113] (by rfl) rfl rfl (by(try simp only[jq0,jq1,jq2]);first|done|rfl|(simp only[jq3,jq4];rfl)) ?_
          with_reducible refine(qwv.calls kj3 t113 t116 _ A23.out).mono ?_
          rintro e w41 ⟨v117,rfl,ho0,hb⟩
          refine⟨_,rfl,?_⟩;replace HO108:=U.mk (Kd.V_elder' (by(with_reducible repeat(first|apply Kd.jv|apply Kd.jk|apply Kd.jw));exact HO108.out) (Kd.R_base ho0) hb);replace HO112:=U.mk (Kd.V_elder' (by(with_reducible repeat(first|apply Kd.jv|apply Kd.jk|apply Kd.jw));exact HO112.out) (Kd.R_base ho0) hb);have HO118:=U.mk (Kd.R_lower ho0 (zq (by repeat(first|(with_reducible first|exact HB.out|apply L|apply O|apply J|refine qz ?_ GE101.out|refine qz ?_ GE115.out)|exact HB.out))));replace BK101:=U.mk (jx (by solve_by_elim only[BK101.out,qk,qv,qj]) hb);replace BK115:=U.mk (jx (by solve_by_elim only[BK115.out,qk,qv,qj]) hb);replace HB:=U.mk (qx (by repeat(first|(with_reducible first|exact HB.out|apply L|apply O|apply J|refine qz ?_ GE101.out|refine qz ?_ GE115.out)|exact HB.out)) hb)
          (try clear hb)
          (try clear hb2)
          (try clear hk)
          (try clear hi)
          (try clear ho0)
          refine hK.out _ _ ⟨(qq BK115.out 0).trans rfl,(qq BK115.out 1).trans rfl⟩ (fun hHeld=>?_);clear hK K;refine norm_ (a':=?_) ?_ ?_;rotate_left
          ·show Act.put _ (some 38) _=_
           simp only[Act.put,jq5,jq6,jq7,i64_w,i32_w]
           rfl
          refine one_ (i:=7) (N:=some 41) #[Z,Z,Z,Z,Z,Z,Z,Z,Y,Y,Y,Y] rfl rfl (one_of HT_.out (by kernel_rfl)) (by decide) (fun K hK=>?_);refine goes_ Tryz.func18 (by kernel_rfl) rfl #[.int .i64 t114] (by rfl) rfl rfl (by(try simp only[jq0,jq1,jq2]);first|done|rfl|(simp only[jq3,jq4];rfl)) ?_
          with_reducible refine(qwv.calls kj3 t114 t119 _ A24.out).mono ?_
          rintro e w42 ⟨v120,rfl,ho0,hb⟩
          refine⟨_,rfl,?_⟩;replace HO108:=U.mk (Kd.V_elder' (by(with_reducible repeat(first|apply Kd.jv|apply Kd.jk|apply Kd.jw));exact HO108.out) (Kd.R_base ho0) hb);replace HO112:=U.mk (Kd.V_elder' (by(with_reducible repeat(first|apply Kd.jv|apply Kd.jk|apply Kd.jw));exact HO112.out) (Kd.R_base ho0) hb);have HO121:=U.mk (Kd.R_lower (Kd.R_new' ho0 (Kd.R_lt (by solve_by_elim only[HO118.out,Kd.zj,Kd.zz,Kd.zk]))) (zq (by repeat(first|(with_reducible first|exact HB.out|apply L|apply O|apply J|refine qz ?_ GE101.out|refine qz ?_ GE115.out)|exact HB.out))));replace HO118:=U.mk (Kd.R_elder' (by solve_by_elim only[HO118.out,Kd.zj,Kd.zz,Kd.zk]) (Kd.R_base ho0) hb);replace BK101:=U.mk (jx (by solve_by_elim only[BK101.out,qk,qv,qj]) hb);replace BK115:=U.mk (jx (by solve_by_elim only[BK115.out,qk,qv,qj]) hb);replace HB:=U.mk (qx (by repeat(first|(with_reducible first|exact HB.out|apply L|apply O|apply J|refine qz ?_ GE101.out|refine qz ?_ GE115.out)|exact HB.out)) hb)
          (try clear hb)
          (try clear hb2)
          (try clear hk)
          (try clear hi)
          (try clear ho0)
          obtain⟨Ao44,co44,eo44⟩:=Kd.R_slice HO121.out
          (first|subst eo44|(injection eo44 with f1_ f2_ f3_;have f4_:=f1_.symm;have f5_:=f3_.symm;clear f1_ f2_ f3_;subst f4_;subst f5_))
          refine hK.out _ _ ⟨(qq BK115.out 0).trans rfl,(qq BK115.out 1).trans rfl⟩ (fun hHeld=>?_);clear hK K;refine norm_ (a':=?_) ?_ ?_;rotate_left
          ·show Act.put _ (some 41) _=_
           simp only[Act.put,jq5,jq6,jq7,i64_w,i32_w]
           rfl
          refine one_ (i:=8) (N:=some 42) #[Z,Z,Z,Z,Z,Z,Z,Z,Z,Y,Y,Y] rfl rfl (one_of HT_.out (by kernel_rfl)) (by decide) (fun K hK=>?_);refine Kd.R_append_rows_step (Kd.int .u8) (w0:=w) w.heap.size (by rfl) (.tmp 38) (.tmp 41) 44 5 (.int .u8 0) 1 rfl Tryz.underlying44 info5 rfl (by decide) (by omega) v117 t116 t119 _ _ _ (fun k_=>some k_≠(.slice Ao44 t119.length co44:Value).ownBlock) (fun _=>False) rfl rfl ?aO ?aR (fun _ _ h=>h) (fun _ h=>h.elim) ?aF ?aB ?aS ?aL ?_
          (case aR=>repeat(first|exact(Kd.R_reads' HO121.out).2.2|(with_reducible refine Kd.C_alloc ?_ _)|(with_reducible refine Kd.C_drewN ?_ _)|(with_reducible refine Kd.C_drew ?_)))
          (case aB=>exact(by repeat(first|(with_reducible first|exact HB.out|apply L|apply O|apply J|refine qz ?_ GE101.out|refine qz ?_ GE115.out)|exact HB.out)))
          (case aF=>exact(fun k_ hk=>Kd.fresh' (Kd.R_lt (by solve_by_elim only[HO121.out,Kd.zj,Kd.zz,Kd.zk])) k_ hk))
          (case aO=>exact(by(with_reducible repeat(first|apply Kd.zj|apply Kd.zz|apply Kd.zk));exact Kd.R_mono HO118.out (fun _ hk=>hk.2)))
          (case aS=>exact(zq (by repeat(first|(with_reducible first|exact HB.out|apply L|apply O|apply J|refine qz ?_ GE101.out|refine qz ?_ GE115.out)|exact HB.out))))
          (case aL=>have:=LMc25.out;omega)
          intro v123 w43 ho hb hg hat
          rw[← Ny122.out] at ho;replace BK101:=U.mk (blk_grown (by solve_by_elim only[BK101.out,qk,qv,qj]) hg (Kd.R_ne HO118.out BK101.out (by decide)));replace HO108:=U.mk (Kd.V_afterv (ok:=(fun k_=>some k_≠(.slice Ao44 t119.length co44:Value).ownBlock∧k_≠gb101∧k_≠gb115)) (by(with_reducible repeat(first|apply Kd.jv|apply Kd.jk|apply Kd.jw));exact Kd.V_mono HO108.out (fun _ hk=>⟨⟨hk.2,⟨hk.1.1.1,hk.1.1.2⟩⟩,hk.1.2⟩)) hg hat);replace HO112:=U.mk (Kd.V_afterv (ok:=(fun k_=>some k_≠(.slice Ao44 t119.length co44:Value).ownBlock∧k_≠gb101∧k_≠gb115)) (by(with_reducible repeat(first|apply Kd.jv|apply Kd.jk|apply Kd.jw));exact Kd.V_mono HO112.out (fun _ hk=>⟨⟨hk.2,⟨hk.1.1.1,hk.1.1.2⟩⟩,hk.1.2⟩)) hg hat);replace BK115:=U.mk (blk_grown (by solve_by_elim only[BK115.out,qk,qv,qj]) hg (Kd.R_ne HO118.out BK115.out (by decide)));replace HO121:=U.mk (Kd.R_after (ok:=(fun _=>True)) (by solve_by_elim only[HO121.out,Kd.zj,Kd.zz,Kd.zk]) hg hat);replace HB:=U.mk (hb);have HO124:=U.mk (ho);clear HO118;clear ho hb hg hat;obtain⟨Ao45,co45,eo45⟩:=Kd.R_slice HO124.out
          (first|subst eo45|(injection eo45 with f1_ f2_ f3_;have f4_:=f1_.symm;have f5_:=f3_.symm;clear f1_ f2_ f3_;subst f4_;subst f5_))
          refine hK.out _ _ ⟨(qq BK115.out 0).trans rfl,(qq BK115.out 1).trans rfl⟩ (fun hHeld=>?_);clear hK K;refine norm_ (a':=?_) ?_ ?_;rotate_left
          ·show Act.put _ (some 42) _=_
           simp only[Act.put,jq5,jq6,jq7,i64_w,i32_w]
           rfl
          refine one_ (i:=9) (N:=some 43) #[Z,Z,Z,Z,Z,Z,Z,Z,Z,Z,Y,Y] rfl rfl (one_of HT_.out (by kernel_rfl)) (by decide) (fun K hK=>?_);refine goes_ Tryz.func15 (by kernel_rfl) rfl #[.slice Ao45 y122.length co45] (by rfl) rfl rfl (by(try simp only[jq0,jq1,jq2]);first|done|rfl|(simp only[jq3,jq4];rfl)) ?_
          with_reducible refine(qwk.calls kj3 _ _ y122 t125 _ ?side1 ?side2 A26.out).mono ?_
          (case side1=>solve_by_elim only[(Kd.R_reads' HO124.out).2.2,Kd.C_alloc,Kd.C_drewN,Kd.C_drew])
          (case side2=>exact(Kd.R_reads' HO124.out).2.1)
          rintro e w46 ⟨rfl,hb⟩
          refine⟨_,rfl,?_⟩;replace HO108:=U.mk (Kd.V_below (by(with_reducible repeat(first|apply Kd.jv|apply Kd.jk|apply Kd.jw));exact HO108.out) hb);replace HO112:=U.mk (Kd.V_below (by(with_reducible repeat(first|apply Kd.jv|apply Kd.jk|apply Kd.jw));exact HO112.out) hb);replace HO121:=U.mk (Kd.R_below (by solve_by_elim only[HO121.out,Kd.zj,Kd.zz,Kd.zk]) hb);replace HO124:=U.mk (Kd.R_below (by solve_by_elim only[HO124.out,Kd.zj,Kd.zz,Kd.zk]) hb);replace BK101:=U.mk (jx (by solve_by_elim only[BK101.out,qk,qv,qj]) hb);replace BK115:=U.mk (jx (by solve_by_elim only[BK115.out,qk,qv,qj]) hb);replace HB:=U.mk (qx (by repeat(first|(with_reducible first|exact HB.out|apply L|apply O|apply J|refine qz ?_ GE101.out|refine qz ?_ GE115.out)|exact HB.out)) hb)
          (try clear hb)
          (try clear hb2)
          (try clear hk)
          (try clear hi)
          refine hK.out _ _ ⟨(qq BK115.out 0).trans rfl,(qq BK115.out 1).trans rfl⟩ (fun hHeld=>?_);clear hK K;refine norm_ (a':=?_) ?_ ?_;rotate_left
          ·show Act.put _ (some 43) _=_
           simp only[Act.put,jq5,jq6,jq7,i64_w,i32_w]
           rfl
          refine pure_ (i:=10) (N:=some 44) (v:=?_) (a':=?_) #[Z,Z,Z,Z,Z,Z,Z,Z,Z,Z,Z,Y] rfl rfl (any_of HT_.out (by kernel_rfl)) (fun _ _ _ h=>h) (Or.inl ⟨by rfl,?_⟩) ?_ ?_;rotate_left
          ·intro w'
           go_simp
           with_reducible rfl
          rotate_left
          ·simp only[Act.put,jq5,jq6,jq7,i64_w,i32_w]
           rfl
          refine pure_ (i:=11) (N:=some 6) (v:=?_) (a':=?_) #[Z,Z,Z,Z,Z,Z,Z,Z,Z,Z,Z,Z] rfl rfl (any_of HT_.out (by kernel_rfl)) (fun _ _ _ h=>h) (Or.inl ⟨by rfl,?_⟩) ?_ ?_;rotate_left
          ·intro w'
           go_simp
           with_reducible rfl
          rotate_left
          ·simp only[Act.put,jq5,jq6,jq7,i64_w,i32_w]
           rfl
          refine done_ (done_of HT_.out (by kernel_rfl)) ?_;try go_wp2
          go_ret
          exact⟨by first|rfl|(simp[*,zw,zv] <;> rfl),by repeat(first|(with_reducible first|exact HB.out|apply L|apply O|apply J|refine qz ?_ GE101.out|refine qz ?_ GE115.out)|exact HB.out)⟩
         ·rw[if_neg c27] at H;exact absurd H (by simp)
        ·rw[if_neg c25] at H;exact absurd H (by simp)
       ·rw[if_neg c22] at H;exact absurd H (by simp)
      ·rw[if_neg c19] at H;exact absurd H (by simp)
     ·rw[if_neg c15] at H;exact absurd H (by simp)
    ·rw[if_neg c14] at H;exact absurd H (by simp)
end Go.Proofs.YtkcdefnpbnbaeaaGreatDoor.Pr
namespace Go.Proofs.YtkcdefnpbnbaeaaGreatDoor.Pr
open Go.RowKit Go.Shelf Go.Proofs.YtkcdefnpbnbaeaaGreatDoorW.PrintWords Go.Proofs.YtkcdefnpbnbaeaaGreatDoorW.PrintLast Go.Proofs.YtkcdefnpbnbaeaaGreatDoorW.PrintMore
set_option linter.unusedVariables false
theorem bld_size:Option.map (fun x=>x.size) (Tryz.prog.info? 67)=some 2:=by kernel_rfl
theorem bld_lies:liesAt Tryz.prog Tryz.prog.depth 67 (2 / Tryz.prog.cellsOf 67) 0 67 1=true:=by kernel_rfl
set_option maxHeartbeats 1000000 in
theorem copyCheck_used (b:Nat) (w:World) (h0:w.cell? ⟨b,0,none⟩ = some (.pointer (some ⟨b,0,none⟩))) :
  Calls Tryz.prog 77 #[.pointer (some ⟨b,0,none⟩)] w fun e w'=>e=.returned (.tuple #[])∧w'=w:=by
 obtain⟨j,hj,_⟩:=Option.map_eq_some_iff.1 bld_size;go_enter Tryz.func77,Tryz.ntmps77;go_wp2;rw[Lib.run_neq_ptr_same w _ Tryz.underlying65 hj];go_wp2;go_end0
 exact⟨rfl,rfl⟩
set_option maxHeartbeats 1000000 in
theorem copyCheck_fresh (b:Nat) (w:World) (h0:w.cell? ⟨b,0,none⟩ = some (.pointer none)) (hsh:w.shape? b=some (67,2)) (hfz:w.frozen? ⟨b,0,none⟩ = false) :
  Calls Tryz.prog 77 #[.pointer (some ⟨b,0,none⟩)] w fun e w'=>e=.returned (.tuple #[])∧w'=w.setCell ⟨b,0,none⟩ (.pointer (some ⟨b,0,none⟩)):=by
 obtain⟨j,hj,hjs⟩:=Option.map_eq_some_iff.1 bld_size;go_enter Tryz.func77,Tryz.ntmps77;go_wp2;rw[Lib.run_to_unsafe w ⟨b,0,none⟩ Tryz.underlying65 Tryz.underlying98 hj (by rw[hjs];decide) hsh (Nat.zero_lt_succ 1)];simp only[Result.andThen];rw[Oper.upon_value];go_wp2;rw[run_callFunc_extern Tryz.func95 (by kernel_rfl) (by kernel_rfl) (by kernel_rfl) (e:=Extern.AbiNoEscape.same) (by kernel_rfl)];rw[Lib.run_noEscape];simp only[Result.andThen];rw[Oper.upon_value];go_wp2;rw[Lib.run_from_unsafe w ⟨b,0,none⟩ Tryz.underlying98 Tryz.underlying65 hj hsh bld_lies];simp only[Result.andThen];rw[Oper.upon_value];go_wp2;go_end0
 exact⟨rfl,rfl⟩
theorem copyCheck_calls (B b:Nat) (bs:List Value) (w:World) (h:Lib.IsBuilder 67 5 B b bs w) :
  Calls Tryz.prog 77 #[.pointer (some ⟨b,0,none⟩)] w fun e w'=>e=.returned (.tuple #[])∧(Lib.BuilderAt 67 5 B b (.pointer (some ⟨b,0,none⟩)) bs w'∧Below B w w'):=by
 rcases h with h|h
 ·refine(copyCheck_fresh b w h.cell0 h.shape h.frozen0).mono ?_
  rintro e w' ⟨rfl,rfl⟩
  exact⟨rfl,h.used _,(Below.refl B w).setCell (p:=⟨b,0,none⟩) h.1 _⟩
 ·refine(copyCheck_used b w h.cell0).mono ?_
  rintro e w' ⟨rfl,rfl⟩
  exact⟨rfl,h,Below.refl B _⟩
set_option maxHeartbeats 2000000 in
theorem writeByte_calls (B b:Nat) (bs:List Value) (c:Int) (w:World) (h:Lib.IsBuilder 67 5 B b bs w) (hlen:bs.length + 1≤140737488355328) (hBw:B≤w.heap.size) :
  Calls Tryz.prog 46 #[.pointer (some ⟨b,0,none⟩),.int .u8 c] w fun e w'=>e=.returned .nilIface∧(Lib.BuilderAt 67 5 B b (.pointer (some ⟨b,0,none⟩)) (bs ++ [.int .u8 c]) w'∧Below B w w'):=by
 obtain⟨i0,hi,hz0,hz1,hz2⟩:=info_parts (show Option.map (fun i=>(i.zero,i.size,i.bytes)) (Tryz.prog.info? 5)=some (some (.int .u8 0),1,1) by kernel_rfl);go_enter Tryz.func46,Tryz.ntmps46;go_wp2_with (go_at_call 77;refine(copyCheck_calls B b bs _ h).mono ?_)
 rintro e w1 ⟨rfl,h1,hb1⟩
 obtain⟨hB,v,hbk,hown,hne⟩:=h1;have c0:w1.cell? ⟨b,0,none⟩ = some (.pointer (some ⟨b,0,none⟩)):=by rw[Lib.cell_of_heap hbk];rfl
 have c1:w1.cell? ⟨b,1,none⟩ = some v:=by rw[Lib.cell_of_heap hbk];rfl
 go_wp2_with (at_builtin;refine wpList_append_own _ rfl _ _ 44 rfl B 5 i0 (.int .u8 0) 1 1 Tryz.underlying44 hi hz0 hz1 hz2 rfl (by decide) _ _ _ rfl (hown.alloc _) ⟨w1.heap.size,0,none⟩ 1 1 [.int .u8 c] rfl rfl ?c1 ?c2 ?c3 ?c4 ?c5 ?_)
 case c1 =>
  intro j u hj
  match j,hj with
  | 0,hj=>simp at hj;subst hj;simp[Addr.add]
 case c2=>intro u hu;simp at hu;subst hu;rfl
 case c3=>unfold maxLen;omega
 case c4=>omega
 case c5=>have:=hb1.size;simp;omega
 intro v' w2 hown' hgrow _
 have hlt:b < w1.heap.size:=by
  rcases Nat.lt_or_ge b w1.heap.size with h'|h'
  ·exact h'
  ·simp[Array.getElem?_eq_none h'] at hbk
 have hb2:w2.heap[b]? = some (.cells #[.pointer (some ⟨b,0,none⟩),v] 67 (0,0)):=by
  rw[hgrow.block b (by simp;omega) (fun e=>hne e.symm),Lib.alloc_old w1 _ b hlt];exact hbk
 have d0:w2.cell? ⟨b,0,none⟩ = some (.pointer (some ⟨b,0,none⟩)):=by rw[Lib.cell_of_heap hb2];rfl
 have d1:w2.cell? ⟨b,1,none⟩ = some v:=by rw[Lib.cell_of_heap hb2];rfl
 have f1:w2.frozen? ⟨b,1,none⟩ = false:=Lib.frozen_of_heap hb2 1
 obtain⟨g,cap,rfl⟩ : ∃ g cap,v'=.slice (some ⟨g,0,none⟩) (bs.length + 1) cap:=by
  rcases hown'.2 with ⟨_,h0⟩|⟨g,cap,cur,hv,_⟩
  ·omega
  ·exact⟨g,cap,hv⟩
 go_wp2;go_ret
 refine⟨rfl,?_,?_⟩
 ·exact Lib.BuilderAt.put (T:=67) (e:=5) hB hb2 (bs':=bs ++ [.int .u8 c]) (by simpa using hown') (by decide)
 ·exact((hb1.alloc (by have:=hb1.size;omega) _).grown hgrow (by have:=hb1.size;simp;omega) (fun k hk=>(hown.lt k hk).1)).setCell (p:=⟨b,1,none⟩) hB _
def bldF (x:Nat):Nat:=if x=169 then 47 else x
def bldT (x:Nat):Nat:=if x=0 then 0 else if x=3 then 3 else if x=9 then 9 else if x=37 then 44 else if x=70 then 65 else if x=72 then 67 else if x=127 then 88 else if x=5 then 5 else x
def bldRen:Ren:=⟨bldF,bldT,id⟩
theorem bldLays:Lays.n169 Tryz.prog bldRen where
 mixed:=by kernel_rfl
 f169:=by kernel_rfl
 t0:=Tryz.underlying0
 a0:=Tryz.isAgg0
 z0:=Tryz.sizeOf0
 v0:=Tryz.zeroValue0
 t3:=Tryz.underlying3
 a3:=Tryz.isAgg3
 z3:=Tryz.sizeOf3
 v3:=Tryz.zeroValue3
 t9:=Tryz.underlying9
 a9:=Tryz.isAgg9
 z9:=Tryz.sizeOf9
 v9:=Tryz.zeroValue9
 t37:=Tryz.underlying44
 a37:=Tryz.isAgg44
 z37:=Tryz.sizeOf44
 v37:=Tryz.zeroValue44
 t70:=Tryz.underlying65
 a70:=Tryz.isAgg65
 z70:=Tryz.sizeOf65
 v70:=Tryz.zeroValue65
 t72:=Tryz.underlying67
 a72:=Tryz.isAgg67
 z72:=Tryz.sizeOf67
 v72:=Tryz.zeroValue67
 t127:=Tryz.underlying88
 a127:=Tryz.isAgg88
 z127:=Tryz.sizeOf88
 v127:=Tryz.zeroValue88
theorem bldExtra:Builder.Extra Tryz.prog bldRen where
 sizeBuilder:=by kernel_rfl
 liesBuilder:=by kernel_rfl
 t5:=Tryz.underlying5
 a5:=Tryz.isAgg5
 z5:=Tryz.sizeOf5
 v5:=Tryz.zeroValue5
 infoByte:=by kernel_rfl
 cellsByte:=by kernel_rfl
 sizeByte:=by kernel_rfl
 neB5:=by decide
theorem string_calls (B b:Nat) (l:List UInt8) (w:World) (h:Lib.IsBuilder 67 5 B b (Lib.byteCells l) w) (hBw:B≤w.heap.size) :
  Calls Tryz.prog 47 #[.pointer (some ⟨b,0,none⟩)] w fun e w'=>e=.returned (.string ⟨l.toArray⟩)∧Below B w w' :=
 Any.Builder_String_any bldLays bldExtra B b l w h hBw
end Go.Proofs.YtkcdefnpbnbaeaaGreatDoor.Pr
namespace Go.Proofs.YtkcdefnpbnbaeaaGreatDoor.Pr
open Go.RowKit Go.Proofs.YtkcdefnpbnbaeaaGreatDoor.Read Go.Proofs.YtkcdefnpbnbaeaaGreatDoorW.PrintWords
theorem w64 {n:Int} (h0 : -9223372036854775808≤n) (h1:n≤9223372036854775807):wrap64 n=n:=by unfold wrap64;omega
theorem rd_nat {l:List Int} {i:Nat} (h:i < l.length):rd l (i:Int)=l[i]:=by
 simp[rd,List.getD_eq_getElem?_getD,List.getElem?_eq_getElem h]
end Go.Proofs.YtkcdefnpbnbaeaaGreatDoor.Pr
namespace Go.Proofs.YtkcdefnpbnbaeaaGreatDoor.Pr
open Go.RowKit Go.Proofs.YtkcdefnpbnbaeaaGreatDoorW.PrintWords Go.Proofs.YtkcdefnpbnbaeaaGreatDoorW.PrintLast Go.Proofs.YtkcdefnpbnbaeaaGreatDoorW.PrintMore
attribute [local go_sem] max2_int min2_int max_two min_two max_three min_three max_four min_four
set_option linter.unusedVariables false
set_option linter.unusedSimpArgs false
def xz.f (a0:Int):Option (List Int):=some (([(a0) % 256,(a0 / 256) % 256,(a0 / 65536) % 256,(a0 / 16777216) % 256]:List Int))
theorem xz.calls (a0:Int) (r:List Int) (w:World) (h:xz.f a0=some r) :
  Calls Tryz.prog 28 #[.int .i64 a0] w fun e w'=>∃ v0_:Value,e=.returned (v0_)∧Kd.R (Kd.int .u8) 5 w' w.heap.size (fun _=>True) v0_ r∧Below w.heap.size w w':=by
 have HB:=U.mk (Below.refl w.heap.size w);unfold xz.f at h;have H:=h;clear h;obtain⟨y101,hy101⟩ : ∃ y_:List Int,y_=(([(a0) % 256,(a0 / 256) % 256,(a0 / 65536) % 256,(a0 / 16777216) % 256]:List Int)):=⟨_,rfl⟩;replace H:(some y101)=some r:=by first|(rw[hy101];with_reducible exact H)|(have H2_:=(Option.bind_some _ _).symm.trans H;rw[hy101];with_reducible exact H2_)|(have H2_:=(Option.bind_some _ _).symm.trans H;with_reducible exact H2_)|with_reducible exact H|(rw[hy101];exact H)|exact H
 have Ny101:=U.mk hy101;clear hy101;obtain rfl:=Option.some.inj H;go_enter Tryz.func28,Tryz.ntmps28;go_wp2_with (first|((with_reducible refine gate_dst (N:=14) rfl ?_);refine Kd.R_lit (Kd.int .u8) _ 5 ?hg (N:=14) ?hd (xs:=([(a0) % 256,(a0 / 256) % 256,(a0 / 65536) % 256,(a0 / 16777216) % 256]:List Int)) (inner:=[.int .u8 ((a0) % 256),.int .u8 ((a0 / 256) % 256),.int .u8 ((a0 / 65536) % 256),.int .u8 ((a0 / 16777216) % 256)]) (ok:=fun _=>True) (okp:=fun _=>True) ?hr ?hp (fun _ hk=>hk) trivial (Below.refl _ _) (Nat.le_refl _) (by simp) ?_;(case hd=>rfl);(case hg=>rfl);(case hr=>first|(go_simp;done)|(go_simp;rfl));(case hp=>exact(Reps.one (show Kd.M (Kd.int .u8) _ _ _ ((a0) % 256) [.int .u8 ((a0) % 256)] from rfl) (Reps.one (show Kd.M (Kd.int .u8) _ _ _ ((a0 / 256) % 256) [.int .u8 ((a0 / 256) % 256)] from rfl) (Reps.one (show Kd.M (Kd.int .u8) _ _ _ ((a0 / 65536) % 256) [.int .u8 ((a0 / 65536) % 256)] from rfl) (Reps.one (show Kd.M (Kd.int .u8) _ _ _ ((a0 / 16777216) % 256) [.int .u8 ((a0 / 16777216) % 256)] from rfl) (Reps.none _ _))))));intro v102 w2 ho3 hb hg_ hnew_;clear hg_ hnew_;(first|rw[← Ny101.out] at ho3|(simp only[Int.reduceToNat] at ho3;rw[← Ny101.out] at ho3));have HO103:=U.mk (Kd.R_lower ho3 (zq (by solve_by_elim only[HB.out,L,O,J])));replace HB:=U.mk (qx (by solve_by_elim only[HB.out,L,O,J]) hb);clear hb ho3))
 go_ret
 exact⟨_,by first|rfl|(simp[*,zw,zv] <;> rfl),by(with_reducible repeat(first|apply Kd.zj|apply Kd.zz|apply Kd.zk));exact HO103.out,by solve_by_elim only[HB.out,L,O,J]⟩
end Go.Proofs.YtkcdefnpbnbaeaaGreatDoor.Pr
namespace Go.Proofs.YtkcdefnpbnbaeaaGreatDoor.Pr
open Go.RowKit Go.Proofs.YtkcdefnpbnbaeaaGreatDoorW.PrintWords Go.Proofs.YtkcdefnpbnbaeaaGreatDoorW.PrintLast Go.Proofs.YtkcdefnpbnbaeaaGreatDoorW.PrintMore
set_option linter.unusedVariables false
def mulT:List Int:=[1103515245,69069,1664525,22695477]
def stepAt (a:List Int) (x:Int) (i:Nat):List Int:=a.set i ((a.getD i 0 * mulT.getD i 0 + x + 1 + a.getD ((i+1)%4) 0) % 2147483579)
def mixN (a:List Int) (x:Int):Nat→List Int
 | 0=>a
 | i+1=>stepAt (mixN a x i) x i
structure OnlyB (w w':World) (g:Nat):Prop where
 os:w'.os=w.os
 tape:w'.tape=w.tape
 output:w'.output=w.output
 size:w'.heap.size=w.heap.size
 block:∀ k,k≠g→w'.heap[k]? = w.heap[k]?
theorem OnlyB.refl (w:World) (g:Nat):OnlyB w w g:=⟨rfl,rfl,rfl,rfl,fun _ _=>rfl⟩
theorem OnlyB.drew {w w':World} {g:Nat} (h:OnlyB w w' g):OnlyB w w'.drew g:=⟨h.os,h.tape,h.output,h.size,h.block⟩
theorem OnlyB.set {w w':World} {g:Nat} (h:OnlyB w w' g) (j:Nat) (u:Value):OnlyB w (w'.setCell ⟨g,j,none⟩ u) g :=
 ⟨h.os,h.tape,h.output,by simpa [World.setCell] using h.size,fun k hk=>(Below.heap_setCell w' ⟨g,j,none⟩ u k hk).trans (h.block k hk)⟩
theorem mulOk:∀ j:Nat,j < 4→0≤mulT.getD j 0∧mulT.getD j 0 < 2147483579:=by decide
theorem mix_len (l:List Int) (x:Int) (k:Nat):(mixN l x k).length=l.length:=by
 induction k with
 | zero=>rfl
 | succ k ih=>simp[mixN,stepAt,ih]
theorem prod_bd {a b:Int} (ha : 0≤a) (ha2:a < 2147483579) (hb : 0≤b) (hb2:b < 2147483579) : 0≤a * b∧a * b≤4611685717779682084:=by
 refine⟨Int.mul_nonneg ha hb,?_⟩;have:=Int.mul_le_mul (show a≤2147483578 by omega) (show b≤2147483578 by omega) hb (by omega)
 omega
theorem mix_bd (l:List Int) (x:Int) (hx : 0≤x) (hl:l.length=4) (hb:∀ j,j < 4→0≤l.getD j 0∧l.getD j 0 < 2147483579) (k:Nat) (hk:k≤4):∀ j,j < 4→0≤(mixN l x k).getD j 0∧(mixN l x k).getD j 0 < 2147483579:=by
 induction k with
 | zero=>exact hb
 | succ k ih =>
  intro j hj
  have ih:=ih (by omega);have hlen:=mix_len l x k;simp only[mixN,stepAt]
  by_cases e:j=k
  ·subst e;rw[List.getD_eq_getElem?_getD,List.getElem?_set_self (by omega)];simp only[Option.getD_some]
   omega
  ·rw[List.getD_eq_getElem?_getD,List.getElem?_set_ne (by omega),← List.getD_eq_getElem?_getD];exact ih j hj
theorem nums_cell {w:World} {g:Nat} {l:List Int} {t:TypeId} (h:w.heap[g]? = some (.cells (nums .i64 l).toArray t (0,0))) (k:Nat) (hk:k < l.length):w.cell? ⟨g,k,none⟩ = some (.int .i64 (l.getD k 0)):=by
 rw[qq h];simp[nums,List.getElem?_map,List.getElem?_eq_getElem hk,List.getD_eq_getElem?_getD]
set_option maxHeartbeats 1000000 in
theorem eat_calls (x:Int) (l:List Int) (hl:l.length=4) (hb:∀ j,j < 4→0≤l.getD j 0∧l.getD j 0 < 2147483579) (ga gm:Nat) (w:World) (hx0 : 0≤x) (hx1:x≤255)
 (ha:w.heap[ga]? = some (.cells (nums .i64 l).toArray 100 (0,0))) (hm:w.heap[gm]? = some (.cells (nums .i64 mulT).toArray 100 (0,0))) (hne:ga≠gm) :
 Calls Tryz.prog 96 #[.int .u8 x,.pointer (some ⟨ga,0,none⟩),.pointer (some ⟨gm,0,none⟩)] w fun e w'=>e=.returned (.tuple #[])∧w'.heap[ga]? = some (.cells (nums .i64 (mixN l x 4)).toArray 100 (0,0))∧OnlyB w w' ga:=by
 have HL:=U.mk hl;have HB:=U.mk hb;have HA:=U.mk ha;have HM:=U.mk hm
 clear hl hb ha hm;go_enter Tryz.func96,Tryz.ntmps96;go_wp2
 go_loopw [5] (fun i wr=>∃ k:Nat,k≤4∧i=.int .i64 k∧U (wr.heap[ga]? = some (.cells (nums .i64 (mixN l x k)).toArray 100 (0,0))∧OnlyB w wr ga)) (fun i _=>4 - (intOf i).toNat)
 case atStart=>exact⟨0,by omega,rfl,⟨HA.out,OnlyB.refl _ _⟩⟩
 case round =>
  obtain⟨k,hk,rfl,HW⟩:=hrel
  by_cases hlt:k < 4
  ·obtain⟨a,ea⟩ : ∃ a,a=mixN l x k:=⟨_,rfl⟩;have hc1:=nums_cell HW.out.1 k (by rw[mix_len,HL.out];omega);have hc2:=nums_cell HW.out.1 ((k+1)%4) (by rw[mix_len,HL.out];omega);have hc3:=nums_cell ((HW.out.2.block gm (Ne.symm hne)).trans HM.out) k hlt;have hf:=I HW.out.1 k;have b1:=mix_bd l x hx0 HL.out HB.out k hk k hlt;have b2:=mix_bd l x hx0 HL.out HB.out k hk ((k+1)%4) (by omega);have b3:=mulOk k hlt;obtain⟨p1,eP1⟩ : ∃ p,p=(mixN l x k).getD k 0:=⟨_,rfl⟩;obtain⟨p2,eP2⟩ : ∃ p,p=(mixN l x k).getD ((k+1)%4) 0:=⟨_,rfl⟩;obtain⟨p3,eP3⟩ : ∃ p,p=mulT.getD k 0:=⟨_,rfl⟩;rw[← eP1] at hc1 b1;rw[← eP2] at hc2 b2;rw[← eP3] at hc3 b3
   have b4:=prod_bd b1.1 b1.2 b3.1 b3.2;have EP1:=U.mk eP1;have EP2:=U.mk eP2;have EP3:=U.mk eP3;have EA:=U.mk ea
   clear eP1 eP2 eP3 ea;go_wp2;have e1:IntKind.i64.wrap (p1 * p3)=p1 * p3:=IntWalk.i64_in _ (by omega);have e2:IntKind.i64.wrap x=x:=IntWalk.i64_in _ (by omega);have e3:IntKind.i64.wrap (p1 * p3 + x)=p1 * p3 + x:=IntWalk.i64_in _ (by omega);have e4:IntKind.i64.wrap (p1 * p3 + x + 1)=p1 * p3 + x + 1:=IntWalk.i64_in _ (by omega);have e5:IntKind.i64.wrap (k + 1)=k + 1:=IntWalk.i64_in _ (by omega);have e6:((k:Int) + 1).tmod 4=((k:Int) + 1) % 4:=Int.tmod_eq_emod_of_nonneg (by omega);have e7:IntKind.i64.wrap (p1 * p3 + x + 1 + p2)=p1 * p3 + x + 1 + p2:=IntWalk.i64_in _ (by omega);have e8:(p1 * p3 + x + 1 + p2).tmod 2147483579=(p1 * p3 + x + 1 + p2) % 2147483579:=Int.tmod_eq_emod_of_nonneg (by omega);have n0 : 0≤((k:Int) + 1) % 4:=by omega
   have n4:((k:Int) + 1) % 4 < 4:=by omega
   have n1:(((k:Int) + 1) % 4).toNat=(k + 1) % 4:=by omega
   go_still_tail 20,(by kernel_rfl)
   clear e1 e2 e3 e4 e5 e6 e7 e8 n0 n4 n1
   skip
   change wpList _ _ _ _ _ wr.drew
   have HW2:U (wr.drew.heap[ga]? = some (.cells (nums .i64 (mixN l x k)).toArray 100 (0,0))∧OnlyB w wr.drew ga):=⟨HW.out.1,HW.out.2.drew⟩;clear HW hc1 hc2 hc3 hf;generalize wr.drew=w2 at HW2 ⊢;have hc1:=nums_cell HW2.out.1 k (by rw[mix_len,HL.out];omega);have hf:=I HW2.out.1 k;go_wp2;go_roundw
   case rel =>
    refine⟨k + 1,by omega,by go_num,?_,HW2.out.2.set _ _⟩;rw[blk_set HW2.out.1];simp only[mixN,stepAt,nums,List.map_set,jq5,EP1.out,EP2.out,EP3.out]
   case measure=>simp[intOf];omega
  ·go_wp2;obtain rfl:k=4:=by omega
   exact bodyPost_end (results_none rfl _ _ _) rfl ⟨rfl,HW.out.1,HW.out.2⟩
def isBytes (l:List Int):Prop:=∀ x ∈ l,0≤x∧x≤255
instance (l:List Int):Decidable (isBytes l):=by unfold isBytes;infer_instance
def dgMix (a:List Int) (x:Int):List Int:=mixN a x 4
def dgAll (a:List Int) (xs:List Int):List Int:=xs.foldl dgMix a
def yb (n:Int):List Int:=[n % 256,(n / 256) % 256,(n / 65536) % 256,(n / 16777216) % 256]
def dgS (l:List Int):List Int:=dgAll (dgAll (dgAll [11,22,33,44] l) (yb l.length)) (List.replicate 8 0)
def dg (l:List Int):List Int:=(dgS l).flatMap yb
def vv.f (l0:List Int):Option (List Int):=if isBytes l0 then(if (l0.length:Int) > 20000 then some [] else some (dg l0)) else none
theorem yb_bytes (n:Int):isBytes (yb n):=by
 intro x hx
 simp only[yb,List.mem_cons,List.not_mem_nil,or_false] at hx
 omega
theorem yb_len (n:Int):(yb n).length=4:=rfl
structure DigInv (w wr:World) (a:List Int):Prop where
 A:wr.heap[w.heap.size]? = some (.cells (nums .i64 a).toArray 100 (0,0))
 M:wr.heap[w.heap.size + 1]? = some (.cells (nums .i64 mulT).toArray 100 (0,0))
 B:Below w.heap.size w wr
 len:a.length=4
 bd:∀ j,j < 4→0≤a.getD j 0∧a.getD j 0 < 2147483579
theorem DigInv.to {w wr w':World} {a:List Int} {x:Int} (h:DigInv w wr a) (hx : 0≤x) (h1:w'.heap[w.heap.size]? = some (.cells (nums .i64 (mixN a x 4)).toArray 100 (0,0))) (h2:OnlyB wr w' w.heap.size):DigInv w w' (dgMix a x) :=
 ⟨h1,(h2.block _ (by omega)).trans h.M,⟨h2.os.trans h.B.os,h2.tape.trans h.B.tape,h2.output.trans h.B.output,by rw[h2.size];exact h.B.size,fun k hk=>(h2.block k (by omega)).trans (h.B.block k hk)⟩,by rw[dgMix,mix_len,h.len],mix_bd a x hx h.len h.bd 4 (by omega)⟩
theorem DigInv.drew {w wr:World} {a:List Int} (h:DigInv w wr a):DigInv w wr.drew a:=⟨h.A,h.M,h.B.drew,h.len,h.bd⟩
theorem DigInv.keep {w wr w':World} {a:List Int} (h:DigInv w wr a) (hb:Below (w.heap.size + 2) wr w'):DigInv w w' a :=
 ⟨(hb.block _ (by omega)).trans h.A,(hb.block _ (by omega)).trans h.M,h.B.trans (hb.mono (by omega)),h.len,h.bd⟩
theorem DigInv.lt {w wr:World} {a:List Int} (h:DigInv w wr a):w.heap.size + 2≤wr.heap.size:=blk_lt h.M
theorem eat_inv {w wr:World} {a:List Int} (h:DigInv w wr a) (x:Int) (hx0 : 0≤x) (hx1:x≤255) :
  Calls Tryz.prog 96 #[.int .u8 x,.pointer (some ⟨w.heap.size,0,none⟩),.pointer (some ⟨w.heap.size + 1,0,none⟩)] wr fun e w'=>e=.returned (.tuple #[])∧DigInv w w' (dgMix a x)∧OnlyB wr w' w.heap.size :=
 (eat_calls x a h.len h.bd _ _ wr hx0 hx1 h.A h.M (by omega)).mono fun e w' ⟨he,h1,h2⟩=>⟨he,h.to hx0 h1 h2,h2⟩
theorem DigInv.start (w:World):DigInv w ((w.alloc (.cells #[.int .i64 11,.int .i64 22,.int .i64 33,.int .i64 44] 100)).alloc (.cells #[.int .i64 1103515245,.int .i64 69069,.int .i64 1664525,.int .i64 22695477] 100)) [11,22,33,44] :=
 ⟨qj (blk_new w _) _,by have:=blk_new (w.alloc (.cells #[.int .i64 11,.int .i64 22,.int .i64 33,.int .i64 44] 100)) (.cells (nums .i64 mulT).toArray 100 (0,0));simpa [nums,mulT] using this,((Below.refl _ _).alloc (Nat.le_refl _) _).alloc (by simp) _,rfl,by decide⟩
theorem rd_mem {l:List Int} {k:Nat} (h:k < l.length):rd l k ∈ l:=by
 simp[rd,List.getD_eq_getElem?_getD,List.getElem?_eq_getElem h]
theorem take_snoc_rd {l:List Int} {k:Nat} (h:k < l.length):l.take (k + 1)=l.take k ++ [rd l k]:=by
 rw[List.take_succ_eq_append_getElem h];simp[rd,List.getD_eq_getElem?_getD,List.getElem?_eq_getElem h]
theorem dgAll_nil (a:List Int):dgAll a []=a:=rfl
theorem dgAll_snoc (a l:List Int) (x:Int):dgAll a (l ++ [x])=dgMix (dgAll a l) x:=by simp[dgAll]
theorem R_only {α:Type} {d:Kd α} {e base:Nat} {w w':World} {ok:Nat→Prop} {v:Value} {xs:List α} (h:d.R e w base ok v xs) {g:Nat} (ho:OnlyB w w' g) (hg:g < base):d.R e w' base ok v xs :=
 Kd.R_mono (Kd.R_move (Kd.R_bound h) (fun k hk=>ho.block k (by have:=hk.2.1;omega))) (fun _ hk=>hk.1)
theorem R_at {e base n c:Nat} {w:World} {ok:Nat→Prop} {kd:IntKind} {A:Option Addr} {xs:List Int} (h:(Kd.int kd).R e w base ok (.slice A n c) xs) (k:Nat) (hk:k < xs.length) :
  ∃ ad,A=some ad∧w.cell? (ad.add k)=some (.int kd (rd xs k)):=by
 obtain⟨A',c',he,_,hC⟩:=Kd.R_reads h;injection he with h1 h2 h3
 subst h1;obtain⟨ad,h4,h5⟩:=Kd.at_int hC k (by omega) (by omega);exact⟨ad,h4,by simpa using h5⟩
theorem agg4_index0 (b0 b1 b2 b3:Int) (W:World):(Instr.index 100 (.agg #[.int .i64 b0,.int .i64 b1,.int .i64 b2,.int .i64 b3]) (.int .i64 0)).run Tryz.prog W=.ok (.int .i64 b0) W:=by kernel_rfl
theorem agg4_index1 (b0 b1 b2 b3:Int) (W:World):(Instr.index 100 (.agg #[.int .i64 b0,.int .i64 b1,.int .i64 b2,.int .i64 b3]) (.int .i64 1)).run Tryz.prog W=.ok (.int .i64 b1) W:=by kernel_rfl
theorem agg4_index2 (b0 b1 b2 b3:Int) (W:World):(Instr.index 100 (.agg #[.int .i64 b0,.int .i64 b1,.int .i64 b2,.int .i64 b3]) (.int .i64 2)).run Tryz.prog W=.ok (.int .i64 b2) W:=by kernel_rfl
theorem agg4_index3 (b0 b1 b2 b3:Int) (W:World):(Instr.index 100 (.agg #[.int .i64 b0,.int .i64 b1,.int .i64 b2,.int .i64 b3]) (.int .i64 3)).run Tryz.prog W=.ok (.int .i64 b3) W:=by kernel_rfl
theorem agg4_index (b0 b1 b2 b3:Int) (k:Nat) (hk:k < 4) (W:World):(Instr.index 100 (.agg #[.int .i64 b0,.int .i64 b1,.int .i64 b2,.int .i64 b3]) (.int .i64 (k:Int))).run Tryz.prog W=.ok (.int .i64 (rd [b0,b1,b2,b3] k)) W:=by
 rcases k with _|_|_|_|k
 ·exact agg4_index0 b0 b1 b2 b3 W
 ·exact agg4_index1 b0 b1 b2 b3 W
 ·exact agg4_index2 b0 b1 b2 b3 W
 ·exact agg4_index3 b0 b1 b2 b3 W
 ·omega
set_option maxHeartbeats 1000000 in
theorem vv.calls (A0:Option Addr) (c0:Nat) (l0:List Int) (r:List Int) (w:World) (hr0:Kd.C (Kd.int .u8) w A0 l0.length l0) (hc0:l0.length≤c0) (h:vv.f l0=some r) :
  Calls Tryz.prog 78 #[.slice A0 l0.length c0] w fun e w'=>∃ v0_:Value,e=.returned (v0_)∧Kd.R (Kd.int .u8) 5 w' w.heap.size (fun _=>True) v0_ r∧Below w.heap.size w w':=by
 have HR0:=U.mk hr0;have HC0:=U.mk hc0;clear hr0 hc0;unfold vv.f at h
 by_cases hb:isBytes l0
 case neg=>rw[if_neg hb] at h;cases h
 rw[if_pos hb] at h;have HBY:=U.mk hb;clear hb
 by_cases hbig:(l0.length:Int) > 20000
 ·rw[if_pos hbig] at h;obtain rfl:=Option.some.inj h;clear h;go_enter Tryz.func78,Tryz.ntmps78;go_wp2;go_ret
  exact⟨_,rfl,Kd.R_nil _ _ _ _ _,Below.refl _ _⟩
 ·rw[if_neg hbig] at h;obtain rfl:=Option.some.inj h;clear h;go_enter Tryz.func78,Tryz.ntmps78;go_wp2;have HI:=U.mk (DigInv.start w);generalize ((w.alloc (.cells #[.int .i64 11,.int .i64 22,.int .i64 33,.int .i64 44] 100)).alloc (.cells #[.int .i64 1103515245,.int .i64 69069,.int .i64 1664525,.int .i64 22695477] 100))=w2 at HI ⊢
  go_loopw [21] (fun i wr=>∃ k:Nat,k≤l0.length∧i=.int .i64 k∧U (DigInv w wr (dgAll [11,22,33,44] (l0.take k)))) (fun i _=>l0.length - (intOf i).toNat)
  case atStart=>exact⟨0,by omega,rfl,HI⟩
  case round =>
   clear HI;obtain⟨k,hk,rfl,HW⟩:=hrel
   by_cases hlt:k < l0.length
   ·obtain⟨ad,rfl,hcell⟩:=Kd.at_int (Kd.C_below HR0.out HW.out.B) k (by omega) (by omega);have hby:=HBY.out (rd l0 k) (rd_mem hlt);obtain⟨x,ex⟩ : ∃ x,x=rd l0 k:=⟨_,rfl⟩;rw[Int.toNat_natCast] at hcell;rw[← ex] at hcell hby
    have EX:=U.mk ex;clear ex;go_wp2_with (go_at_call 96;refine(eat_inv HW.out x hby.1 hby.2).mono ?_;rintro e w' ⟨rfl,HN,_⟩;replace HN:=U.mk HN)
    go_roundw
    case rel=>exact⟨k + 1,by omega,by go_num,⟨by rw[take_snoc_rd hlt,← EX.out,dgAll_snoc];exact HN.out⟩⟩
    case measure=>simp[intOf];omega
   ·obtain rfl:k=l0.length:=by omega
    rw[List.take_length] at HW;clear hlt hk;have HX:=HW;go_wp2_with (go_at_call 28;refine(xz.calls (l0.length:Int) (yb l0.length) _ rfl).mono ?_;rintro e w1 ⟨v1,rfl,HV,HB1⟩;obtain⟨A1,c1,rfl⟩:=Kd.R_slice HV;replace HW:=U.mk (HW.out.keep (HB1.mono HW.out.lt));replace HV:=U.mk (Kd.R_lower HV (base':=w.heap.size + 2) (DigInv.lt HX.out));clear HB1)
    clear HX;have HYB:=U.mk (yb_bytes l0.length);have hyl:(yb (l0.length:Int)).length=4:=rfl;replace hyl:=U.mk hyl
    go_loopw [33] (fun i wr=>∃ k:Nat,k≤(yb l0.length).length∧i=.int .i64 k∧U (DigInv w wr (dgAll (dgAll [11,22,33,44] l0) ((yb l0.length).take k))∧Kd.R (Kd.int .u8) 5 wr (w.heap.size + 2) (fun _=>True) (.slice A1 (yb (l0.length:Int)).length c1) (yb l0.length))) (fun i _=>(yb l0.length).length - (intOf i).toNat)
    case atStart=>exact⟨0,by omega,rfl,⟨HW.out,HV.out⟩⟩
    case round =>
     clear HW HV;obtain⟨k,hk,rfl,HW⟩:=hrel
     by_cases hlt:k < (yb l0.length).length
     ·obtain⟨ad,rfl,hcell⟩:=R_at HW.out.2 k hlt;have hby:=HYB.out (rd (yb l0.length) k) (rd_mem hlt);obtain⟨x,ex⟩ : ∃ x,x=rd (yb l0.length) k:=⟨_,rfl⟩;rw[← ex] at hcell hby
      have EX:=U.mk ex;clear ex;have hyl5:(yb (l0.length:Int)).length≤4:=Nat.le_of_eq hyl.out;go_wp2_with (go_at_call 96;refine(eat_inv HW.out.1 x hby.1 hby.2).mono ?_;rintro e w' ⟨rfl,HN,HO⟩;replace HN:=U.mk HN;replace HO:=U.mk (R_only HW.out.2 HO (by omega)))
      go_roundw
      case rel=>exact⟨k + 1,by omega,by go_num,⟨by rw[take_snoc_rd hlt,← EX.out,dgAll_snoc];exact HN.out,HO.out⟩⟩
      case measure=>simp[intOf];omega
     ·obtain rfl:k=(yb l0.length).length:=by omega
      rw[List.take_length] at HW;clear hlt hk;replace HW:=U.mk HW.out.1;go_wp2
      go_loopw [41] (fun i wr=>∃ k:Nat,k≤8∧i=.int .i64 k∧U (DigInv w wr (dgAll (dgAll (dgAll [11,22,33,44] l0) (yb l0.length)) (List.replicate k 0)))) (fun i _=>8 - (intOf i).toNat)
      case atStart=>exact⟨0,by omega,rfl,⟨by rw[List.replicate_zero,dgAll_nil];exact HW.out⟩⟩
      case round =>
       clear HW;obtain⟨k,hk,rfl,HW⟩:=hrel
       by_cases hlt:k < 8
       ·go_wp2_with (go_at_call 96;refine(eat_inv HW.out 0 (by omega) (by omega)).mono ?_;rintro e w' ⟨rfl,HN,HO⟩;clear HO;replace HN:=U.mk HN)
        go_roundw
        case rel=>exact⟨k + 1,by omega,by go_num,⟨by rw[List.replicate_succ',dgAll_snoc];exact HN.out⟩⟩
        case measure=>simp[intOf];omega
       ·obtain rfl:k=8:=by omega
        rw[show((8:Nat):Int)=8 from rfl];clear hlt hk;replace HW:U (DigInv w wr (dgS l0)):=HW
        obtain⟨b0,b1,b2,b3,eb⟩ : ∃ b0 b1 b2 b3,dgS l0=[b0,b1,b2,b3]:=by
         have:=HW.out.len
         match dgS l0,this with
         | [b0,b1,b2,b3],_=>exact⟨b0,b1,b2,b3,rfl⟩
        have hb0:wr.cell? ⟨w.heap.size,0,none⟩ = some (.int .i64 b0):=by rw[qq HW.out.A,eb];rfl
        have hb1:wr.cell? ⟨w.heap.size,1,none⟩ = some (.int .i64 b1):=by rw[qq HW.out.A,eb];rfl
        have hb2:wr.cell? ⟨w.heap.size,2,none⟩ = some (.int .i64 b2):=by rw[qq HW.out.A,eb];rfl
        have hb3:wr.cell? ⟨w.heap.size,3,none⟩ = some (.int .i64 b3):=by rw[qq HW.out.A,eb];rfl
        replace eb:=U.mk eb;go_wp2;replace HW:=U.mk HW.out.B;clear hb0 hb1 hb2 hb3 hbig
        go_loopw [47,10] (fun i v W=>∃ (k:Nat) (ys:List Int),k≤4∧i=.int .i64 k∧U (ys=([b0,b1,b2,b3].take k).flatMap yb∧ys.length=4 * k∧Kd.R (Kd.int .u8) 5 W w.heap.size (fun _=>True) v ys∧Below w.heap.size w W)) (fun i _ _=>4 - (intOf i).toNat)
        case atStart=>exact⟨0,[],by omega,rfl,⟨rfl,by simp,Kd.R_nil _ _ _ _ _,HW.out⟩⟩
        case round =>
         clear HW;obtain⟨k,ys,hk,rfl,HW⟩:=hrel;obtain⟨A2,c2,rfl⟩:=Kd.R_slice HW.out.2.2.1
         by_cases hlt:k < 4
         ·have hi:=agg4_index b0 b1 b2 b3 k hlt;obtain⟨q,eq⟩ : ∃ q,q=rd [b0,b1,b2,b3] k:=⟨_,rfl⟩;rw[← eq] at hi;replace eq:=U.mk eq;obtain⟨zs,ez⟩ : ∃ zs,zs=yb q:=⟨_,rfl⟩;have hz:U (xz.f q=some zs∧zs.length=4):=⟨by rw[ez];rfl,by rw[ez];rfl⟩;replace ez:=U.mk ez;go_wp2_with (first|(go_at_call 28;refine(xz.calls q zs _ hz.out.1).mono ?_;rintro e w1 ⟨v1,rfl,HV,HB1⟩;obtain⟨A3,c3,rfl,hc3,hC3⟩:=Kd.R_reads HV;have HW2:=U.mk (⟨Kd.R_below HW.out.2.2.1 HB1,qx HW.out.2.2.2 HB1⟩ : _∧_);replace HV:=U.mk hC3;clear hC3 HB1)|((with_reducible refine gate_builtin (b:=.append) (xs:=#[.tmp 50,.tmp 52]) rfl ?_);at_builtin;refine Kd.R_append_row (Value.int .u8) 0 (w0:=w) w.heap.size rfl (.tmp 50) (.tmp 52) 44 5 (.int .u8 0) 1 rfl Tryz.underlying44 info5 rfl (by decide) _ ys zs _ _ _ (fun _=>True) rfl rfl (fun _ _=>trivial) HW2.out.1 HV.out HW2.out.2 HW2.out.2.size ?aL ?_;(case aL=>have h1:=HW.out.2.1;have h2:=hz.out.2;omega);intro v1 w3 hr hb hg hat;replace hr:=U.mk hr;replace hb:=U.mk hb;clear hg hat))
          go_roundw
          case rel=>exact⟨k + 1,ys ++ zs,by omega,by go_num,⟨by rw[take_snoc_rd (by simpa using hlt),← eq.out,List.flatMap_append,← HW.out.1,ez.out];simp,by have h1:=HW.out.2.1;have h2:=hz.out.2;rw[List.length_append];omega,hr.out,hb.out⟩⟩
          case measure=>simp[intOf];omega
         ·obtain rfl:k=4:=by omega
          go_wp2;go_ret
          refine⟨_,rfl,?_,HW.out.2.2.2⟩;have e1:=HW.out.1;rw[List.take_of_length_le (by simp)] at e1;have e2:ys=dg l0:=by rw[e1,dg,eb.out]
          rw[← e2];exact HW.out.2.2.1
end Go.Proofs.YtkcdefnpbnbaeaaGreatDoor.Pr
namespace Go.Proofs.YtkcdefnpbnbaeaaGreatDoor.Pr
open Go.RowKit Go.Proofs.YtkcdefnpbnbaeaaGreatDoor.Read Go.Proofs.YtkcdefnpbnbaeaaGreatDoorW.PrintWords
set_option linter.unusedVariables false
def bitv (data:List Int) (i:Nat):Int:=if i / 8 < data.length then rd data ((i / 8:Nat):Int) / 2 ^ (7 - i % 8) % 2 else 0
def val (data:List Int) (i:Nat):Nat→Int
 | 0=>0
 | n + 1=>2 * val data i n + bitv data (i + n)
theorem bitv_range (data:List Int) (i:Nat) : 0≤bitv data i∧bitv data i≤1:=by
 unfold bitv
 split
 ·omega
 ·omega
theorem val_range (data:List Int) (i:Nat):∀ n,0≤val data i n∧val data i n < 2 ^ n
 | 0=>by simp[val]
 | n + 1=>by
  have h:=val_range data i n;have hb:=bitv_range data (i + n);rw[val,Int.pow_succ]
  omega
theorem val_add (data:List Int) (i n:Nat):∀ m,val data i (n + m)=val data i n * 2 ^ m + val data (i + n) m
 | 0=>by simp[val]
 | m + 1=>by
  rw[show n + (m + 1)=(n + m) + 1 by omega,val,val_add data i n m,val,Int.pow_succ,Nat.add_assoc,Int.mul_add,Int.add_assoc]
  congr 1
  rw[← Int.mul_assoc,Int.mul_comm 2,Int.mul_assoc,Int.mul_comm 2]
theorem val_end (data:List Int) (i:Nat) (h : 8 * data.length≤i):∀ n,val data i n=0
 | 0=>rfl
 | n + 1=>by
  rw[val,val_end data i h n];unfold bitv;rw[if_neg (by omega)]
  rfl
theorem rd_byte {data:List Int} (hb:isBytes data) {m:Nat} (hm:m < data.length) : 0≤rd data (m:Int)∧rd data (m:Int)≤255:=by
 rw[rd_nat hm];have:=hb _ (List.getElem_mem hm)
 omega
theorem val_byte (data:List Int) (hb:isBytes data) (m:Nat) (hm:m < data.length):val data (8 * m) 8=rd data (m:Int):=by
 have hr:=rd_byte hb hm
 have e:∀ j,j < 8→bitv data (8 * m + j)=rd data (m:Int) / 2 ^ (7 - j) % 2:=fun j hj=>by
  unfold bitv;rw[show(8 * m + j) / 8=m by omega,show(8 * m + j) % 8=j by omega,if_pos hm]
 simp only[val,e 0 (by omega),e 1 (by omega),e 2 (by omega),e 3 (by omega),e 4 (by omega),e 5 (by omega),e 6 (by omega),e 7 (by omega)];simp only[show(7 - 0:Nat)=7 from rfl,show(7 - 1:Nat)=6 from rfl,show(7 - 2:Nat)=5 from rfl,show(7 - 3:Nat)=4 from rfl,show(7 - 4:Nat)=3 from rfl,show(7 - 5:Nat)=2 from rfl,show(7 - 6:Nat)=1 from rfl,show(7 - 7:Nat)=0 from rfl]
 omega
def lettersB:ByteArray:=⟨#[48,49,50,51,52,53,54,55,56,57,97,98,99,100,101,102,103,104,105,106,107,108,109,110,111,112,113,114,115,116,117,118]⟩
def letU (n:Int):UInt8:=lettersB.data.getD n.toNat 0
theorem letU_fin:∀ n:Fin 32,bt lettersB ((n.val:Nat):Int)=((letU ((n.val:Nat):Int)).toNat:Int):=by decide +kernel
theorem bt_let {n:Int} (h0 : 0≤n) (h1:n < 32):bt lettersB n=((letU n).toNat:Int):=by
 obtain⟨m,rfl⟩:=Int.eq_ofNat_of_zero_le h0;exact letU_fin ⟨m,by omega⟩
def armU (data:List Int):Nat→List UInt8
 | 0=>[]
 | n + 1=>armU data n ++ [letU (val data (5 * n) 5)]
theorem armU_len (data:List Int):∀ n,(armU data n).length=n
 | 0=>rfl
 | n + 1=>by simp[armU,armU_len data n]
def armN (data:List Int):Nat:=(8 * data.length + 4) / 5
def armB (data:List Int):ByteArray:=⟨(armU data (armN data)).toArray⟩
def numsOf (l:List UInt8):List Int:=l.map fun u=>(u.toNat:Int)
theorem str_nums (l:List UInt8):strOfNums (numsOf l) = ⟨l.toArray⟩:=by
 unfold strOfNums numsOf
 congr 1
 congr 1
 rw[List.map_map]
 conv=>rhs;rw[← List.map_id l]
 congr 1
 funext u
 simp
theorem bit_fin:∀ x:Fin 256,∀ s:Fin 8,Go.bits .and .i64 (shr .i64 (wrap64 ((x.val:Nat):Int)) (IntKind.u64.wrap (((7 - s.val:Nat):Nat):Int))) 1=((x.val:Nat):Int) / 2 ^ (7 - s.val) % 2:=by decide +kernel
theorem sArmor_l1 (data:List Int) (hb:isBytes data) (hl:data.length≤1000000) (q:Nat) (hq : 5 * q < 8 * data.length) (x3:List Int) (hx:x3.length=q) (d:Nat):∀ (k j:Nat),j + d=5→qwk.l1 (k + d + 1) data x3 ((5 * q:Nat):Int) (val data (5 * q) j) ((5 * q + j:Nat):Int)=qwk.l0 k data (x3 ++ [((letU (val data (5 * q) 5)).toNat:Int)]) ((5 * (q + 1):Nat):Int):=by
 have w5:wrap64 (((5 * q:Nat):Int) + 5)=((5 * q + 5:Nat):Int):=by rw[w64 (by omega) (by omega)];omega
 have w8:wrap64 ((data.length:Int) * 8)=((8 * data.length:Nat):Int):=by rw[w64 (by omega) (by omega)];omega
 induction d with
 | zero =>
  intro k j hj
  obtain rfl:j=5:=by omega
  have hv:=val_range data (5 * q) 5;have h32:val data (5 * q) 5 < 32:=by have:=hv.2;omega
  simp only[qwk.l1,w5,if_neg (show ¬ (((5 * q + 5:Nat):Int) < ((5 * q + 5:Nat):Int)) by omega)];rw[show qxq.f=some lettersB from rfl,Option.bind_some,if_pos hv.1,if_pos (show val data (5 * q) 5 < (lettersB.size:Int) from h32),if_pos (by omega),bt_let hv.1 h32]
  rfl
 | succ d ih =>
  intro k j hj
  have hv:=val_range data (5 * q) j
  have hp:(2:Int) ^ j≤16:=by
   rcases j with _|_|_|_|_|j
   ·decide
   ·decide
   ·decide
   ·decide
   ·decide
   ·omega
  have e1:wrap64 (((5 * q + j:Nat):Int) + 1)=((5 * q + (j + 1):Nat):Int):=by rw[w64 (by omega) (by omega)];omega
  have e2:wrap64 (val data (5 * q) j * 2)=2 * val data (5 * q) j:=by rw[w64 (by omega) (by omega)];omega
  have ih2:=ih k (j + 1) (by omega);rw[show k + (d + 1) + 1=(k + d + 1) + 1 by omega];generalize k + d + 1=K at ih2 ⊢;simp only[qwk.l1,w5,w8,if_pos (show((5 * q + j:Nat):Int) < ((5 * q + 5:Nat):Int) by omega),e1,e2];have hval:val data (5 * q) (j + 1)=2 * val data (5 * q) j + bitv data (5 * q + j):=rfl
  by_cases hin : 5 * q + j < 8 * data.length
  ·have et:wrap64 (Int.tdiv ((5 * q + j:Nat):Int) 8)=(((5 * q + j) / 8:Nat):Int):=by
    rw[Int.tdiv_eq_ediv_of_nonneg (by omega),w64 (by omega) (by omega)];omega
   have em:Int.tmod ((5 * q + j:Nat):Int) 8=(((5 * q + j) % 8:Nat):Int):=by
    rw[Int.tmod_eq_emod_of_nonneg (by omega)];omega
   have e7:wrap64 (7 - (((5 * q + j) % 8:Nat):Int))=((7 - (5 * q + j) % 8:Nat):Int):=by rw[w64 (by omega) (by omega)];omega
   have eu:IntKind.u64.wrap ((7 - (5 * q + j) % 8:Nat):Int)=((7 - (5 * q + j) % 8:Nat):Int):=IntWalk.u64_in _ (by omega);have hm:(5 * q + j) / 8 < data.length:=by omega
   have hr:=rd_byte hb hm;obtain⟨x,hx2⟩:=Int.eq_ofNat_of_zero_le hr.1;have hbit:=bit_fin ⟨x,by omega⟩ ⟨(5 * q + j) % 8,by omega⟩;simp only[← hx2] at hbit;rw[eu] at hbit
   have hbv:bitv data (5 * q + j)=rd data (((5 * q + j) / 8:Nat):Int) / 2 ^ (7 - (5 * q + j) % 8) % 2:=by
    unfold bitv;rw[if_pos hm]
   simp only[if_pos (show((5 * q + j:Nat):Int) < ((8 * data.length:Nat):Int) by omega),et,em,e7,eu,if_pos (show(0:Int)≤(((5 * q + j) / 8:Nat):Int) by omega),if_pos (show(((5 * q + j) / 8:Nat):Int) < (data.length:Int) by omega),if_pos (show(0:Int)≤((7 - (5 * q + j) % 8:Nat):Int) by omega),hbit,← hbv];have hbr:=bitv_range data (5 * q + j);rw[w64 (by omega) (by omega),← hval];exact ih2
  ·have hz:bitv data (5 * q + j)=0:=by unfold bitv;rw[if_neg (by omega)]
   rw[hz,Int.add_zero] at hval;rw[if_neg (by omega),← hval];exact ih2
theorem sArmor_l0 (data:List Int) (hb:isBytes data) (hl:data.length≤1000000) (d:Nat):∀ (k q:Nat),q + d=armN data→7 * d < k→qwk.l0 k data (numsOf (armU data q)) ((5 * q:Nat):Int)=some (armB data):=by
 have w8:wrap64 ((data.length:Int) * 8)=((8 * data.length:Nat):Int):=by rw[w64 (by omega) (by omega)];omega
 induction d with
 | zero =>
  intro k q hq hk
  obtain⟨k,rfl⟩ : ∃ m,k=m + 1:=⟨k - 1,by omega⟩;simp only[qwk.l0,w8,if_neg (show ¬ (((5 * q:Nat):Int) < ((8 * data.length:Nat):Int)) by unfold armN at hq;omega),str_nums];rw[show q=armN data by omega]
  rfl
 | succ d ih =>
  intro k q hq hk
  obtain⟨k,rfl⟩ : ∃ m,k=m + 1 + 5 + 1:=⟨k - 7,by omega⟩;have h8 : 5 * q < 8 * data.length:=by unfold armN at hq;omega
  simp only[qwk.l0,w8,if_pos (show((5 * q:Nat):Int) < ((8 * data.length:Nat):Int) by omega)];have:=sArmor_l1 data hb hl q h8 (numsOf (armU data q)) (by simp[numsOf,armU_len]) 5 k 0 (by omega);refine this.trans ?_;rw[show numsOf (armU data q) ++ [((letU (val data (5 * q) 5)).toNat:Int)]=numsOf (armU data (q + 1)) by simp[numsOf,armU]];exact ih k (q + 1) (by omega) (by omega)
theorem specArmor_ev (data:List Int) (hb:isBytes data) (hl:data.length≤1000000):Ev (fun k=>qwk.f k data) (armB data) :=
 ⟨7 * armN data + 1,fun k hk=>sArmor_l0 data hb hl (armN data) k 0 (by omega) (by omega)⟩
theorem i64_small (n:Int) (h0 : 0≤n) (h1:n < 2 ^ 40):IntKind.i64.wrap n=n:=IntWalk.i64_in _ (by omega)
theorem shr_natc (e n:Nat) (hn:n≤64):shr .i64 (e:Int) (n:Int)=((e / 2 ^ n:Nat):Int):=by
 unfold shr;rw[Int.toNat_natCast,Nat.min_eq_left (show n≤IntKind.i64.bits from hn)];simp
theorem val_split (data:List Int) (i n m:Nat):val data i (n + m) / 2 ^ m=val data i n∧val data i (n + m) % 2 ^ m=val data (i + n) m:=by
 have h:=val_range data (i + n) m;have hp:(0:Int) < 2 ^ m:=Int.pow_pos (by decide);rw[val_add,Int.add_comm]
 constructor
 ·rw[Int.add_mul_ediv_right _ _ (by omega),Int.ediv_eq_zero_of_lt h.1 h.2,Int.zero_add]
 ·rw[Int.add_mul_emod_self_right,Int.emod_eq_of_lt h.1 h.2]
theorem val_or (data:List Int) (hb:isBytes data) (i s:Nat) (hi:i < data.length) (hs:s≤8 * i) (hs2 : 8 * i≤s + 4):Go.bits .or .i64 (val data s (8 * i - s) * 256) (rd data (i:Int))=val data s (8 * (i + 1) - s):=by
 have h:=val_range data s (8 * i - s);have hr:=rd_byte hb hi
 have hp:(2:Int) ^ (8 * i - s)≤16:=by
  obtain⟨m,hm⟩ : ∃ m,m=8 * i - s:=⟨_,rfl⟩;rw[← hm]
  rcases m with _|_|_|_|_|m
  ·decide
  ·decide
  ·decide
  ·decide
  ·decide
  ·omega
 rw[Go.bits_join .i64 40 (by decide) i64_small 8 _ _ (by omega) (by omega) (by omega) hr.1 (by omega) (by omega)];rw[show 8 * (i + 1) - s=(8 * i - s) + 8 by omega,val_add,show s + (8 * i - s)=8 * i by omega,val_byte data hb i hi]
 rfl
theorem val_letter (data:List Int) (s q e:Nat) (h1:s≤5 * q) (h2 : 5 * q + 5≤e) (h3:e≤s + 12):Go.bits .and .i64 (shr .i64 (val data s (e - s)) ((e - (5 * q + 5):Nat):Int)) 31=val data (5 * q) 5:=by
 have h:=val_range data s (e - s);obtain⟨v,hv⟩:=Int.eq_ofNat_of_zero_le h.1;have hs:=(val_split data s (5 * q + 5 - s) (e - (5 * q + 5))).1;rw[show 5 * q + 5 - s + (e - (5 * q + 5))=e - s by omega] at hs;have hs2:=val_split data s (5 * q - s) 5;rw[show 5 * q - s + 5=5 * q + 5 - s by omega,show s + (5 * q - s)=5 * q by omega] at hs2;have hlt:=val_range data s (5 * q + 5 - s)
 have hp:(2:Int) ^ (5 * q + 5 - s)≤2 ^ 12:=by
  have:=Nat.pow_le_pow_right (show 0 < 2 by decide) (show 5 * q + 5 - s≤12 by omega)
  exact_mod_cast this
 have e1:shr .i64 (val data s (e - s)) ((e - (5 * q + 5):Nat):Int)=val data s (5 * q + 5 - s):=by
  rw[← hs,hv,shr_natc _ _ (by omega)];simp
 rw[e1,show(31:Int)=2 ^ 5 - 1 by decide,Go.bits_mask .i64 40 (by decide) i64_small 5 (by decide) _ hlt.1 (by omega)];exact hs2.2
theorem val_mask (data:List Int) (s q e:Nat) (h1:s≤5 * q) (h2 : 5 * q≤e) (h3:e≤s + 12):Go.bits .and .i64 (val data s (e - s)) (2 ^ (e - 5 * q) - 1)=val data (5 * q) (e - 5 * q):=by
 have h:=val_range data s (e - s);have hs:=(val_split data s (5 * q - s) (e - 5 * q)).2;rw[show 5 * q - s + (e - 5 * q)=e - s by omega,show s + (5 * q - s)=5 * q by omega] at hs
 have hp:(2:Int) ^ (e - s)≤2 ^ 12:=by
  have:=Nat.pow_le_pow_right (show 0 < 2 by decide) (show e - s≤12 by omega)
  exact_mod_cast this
 rw[Go.bits_mask .i64 40 (by decide) i64_small (e - 5 * q) (by omega) _ h.1 (by omega)];exact hs
theorem val_last (data:List Int) (q b:Nat) (h : 8 * data.length=5 * q + b) (hb:b≤5):val data (5 * q) b * 2 ^ (5 - b)=val data (5 * q) 5:=by
 have e:=val_add data (5 * q) b (5 - b);rw[show b + (5 - b)=5 by omega,val_end data (5 * q + b) (by omega),Int.add_zero] at e;exact e.symm
theorem and31 (n:Int) (h0 : 0≤n) (h1:n < 32):Go.bits .and .i64 n 31=n:=by
 rw[show(31:Int)=2 ^ 5 - 1 by decide,Go.bits_mask .i64 40 (by decide) i64_small 5 (by decide) _ h0 (by omega)];exact Int.emod_eq_of_lt h0 h1
end Go.Proofs.YtkcdefnpbnbaeaaGreatDoor.Pr
namespace Go.Proofs.YtkcdefnpbnbaeaaGreatDoor.Pr
open Go.RowKit Go.Proofs.YtkcdefnpbnbaeaaGreatDoor.Read Go.Proofs.YtkcdefnpbnbaeaaGreatDoorW.PrintWords Go.Proofs.YtkcdefnpbnbaeaaGreatDoorW.PrintLast Go.Proofs.YtkcdefnpbnbaeaaGreatDoorW.PrintMore
set_option linter.unusedVariables false
instance (l:List Int):Decidable (isBytes l):=by unfold isBytes;infer_instance
def vz.f (l0:List Int):Option ByteArray:=if isBytes l0 then some (if (l0.length:Int) > 20000 then⟨#[]⟩ else armB l0) else none
set_option maxHeartbeats 4000000 in
theorem vz.calls (A0:Option Addr) (c0:Nat) (l0:List Int) (r:ByteArray) (w:World) (hr0:Kd.C (Kd.int .u8) w A0 l0.length l0) (hc0:l0.length≤c0) (h:vz.f l0=some r) :
  Calls Tryz.prog 26 #[.slice A0 l0.length c0] w fun e w'=>e=.returned (.string r)∧Below w.heap.size w w':=by
 unfold vz.f at h
 by_cases hb:isBytes l0
 case neg=>rw[if_neg hb] at h;cases h
 rw[if_pos hb] at h;obtain rfl:=Option.some.inj h;have HR0:=U.mk hr0;clear h hr0 hc0
 by_cases hbig:(l0.length:Int) > 20000
 ·rw[if_pos hbig];have q1:decide (20000 < (l0.length:Int))=true:=decide_eq_true hbig;go_enter Tryz.func26,Tryz.ntmps26;go_wp2;go_ret
  exact⟨rfl,Below.refl _ _⟩
 rw[if_neg hbig];have q1:decide (20000 < (l0.length:Int))=false:=decide_eq_false hbig;have HL:U (l0.length≤20000):=⟨by omega⟩;have HB:=U.mk hb;obtain⟨res,hres⟩ : ∃ x,x=armB l0:=⟨_,rfl⟩;rw[← hres];have HRES:=U.mk hres;clear hres hb hbig;go_enter Tryz.func26,Tryz.ntmps26;go_wp2;have HBW0:=U.mk (show Below w.heap.size w (w.alloc (Obj.cells #[Value.pointer none,Value.slice none 0 0] 67)) from L (Below.refl _ _) _);have HI0:=U.mk (Lib.fresh_isBuilder 67 5 w);generalize w.alloc (Obj.cells #[Value.pointer none,Value.slice none 0 0] 67)=w1 at HBW0 HI0 ⊢;obtain⟨B,eB⟩ : ∃ B,B=w.heap.size:=⟨_,rfl⟩;rw[← eB] at HI0;have hbb:w.heap.size=B:=eB.symm;simp only[hbb];clear eB;have HBB:=U.mk hbb;clear hbb
 go_loopw [4,5,13] (fun v4 v5 v13 W=>∃ (i:Nat) (V b:Int),v4=.int .i64 V∧v5=.int .i64 b∧v13=.int .i64 i∧U (i≤l0.length∧V=val l0 (5 * (8 * i / 5)) (8 * i - 5 * (8 * i / 5))∧b=((8 * i - 5 * (8 * i / 5):Nat):Int))∧U (Lib.IsBuilder 67 5 B B (Lib.byteCells (armU l0 (8 * i / 5))) W)∧U (Below w.heap.size w W)) (fun _ _ v13 _=>l0.length - (intOf v13).toNat)
 case atStart=>exact⟨0,0,0,rfl,rfl,rfl,⟨by omega,rfl,rfl⟩,HI0,HBW0⟩
 case round =>
  clear HI0 HBW0;obtain⟨i,V,b,rfl,rfl,rfl,HV,HI,HW⟩:=hrel
  by_cases hlt:i < l0.length
  ·have hll:=HL.out;obtain⟨ad,rfl,hcell⟩:=Kd.at_int (Kd.C_below HR0.out HW.out) i (by omega) (by omega);have hby:=rd_byte HB.out hlt;obtain⟨x,ex⟩ : ∃ x,x=rd l0 (i:Int):=⟨_,rfl⟩;rw[Int.toNat_natCast] at hcell;rw[← ex] at hcell hby
   have EX:=U.mk ex;have HBY:=U.mk hby
   clear ex hby
   obtain⟨hi0,eV,eb⟩:=HV.out;obtain⟨s,es⟩ : ∃ s,s=5 * (8 * i / 5):=⟨_,rfl⟩;have hs1:s≤8 * i:=by omega
   have hs2 : 8 * i≤s + 4:=by omega
   rw[← es] at eV eb;obtain⟨T,eT⟩ : ∃ T,T=val l0 s (8 * (i + 1) - s):=⟨_,rfl⟩;have hvr:=val_range l0 s (8 * i - s)
   have hp:(2:Int) ^ (8 * i - s)≤16:=by
    obtain⟨m,hm⟩ : ∃ m,m=8 * i - s:=⟨_,rfl⟩;rw[← hm]
    rcases m with _|_|_|_|_|m
    ·decide
    ·decide
    ·decide
    ·decide
    ·decide
    ·omega
   have hV1:wrap64 (V * 256)=V * 256:=by rw[eV];exact w64 (by omega) (by omega)
   have hx1:wrap64 x=x:=by have:=HBY.out;exact w64 (by omega) (by omega)
   have hV2:Go.bits .or .i64 (V * 256) x=T:=by rw[eV,EX.out,eT];exact val_or l0 HB.out i s hlt hs1 hs2
   have hb8:wrap64 (b + 8)=((8 * (i + 1) - s:Nat):Int):=by rw[eb,w64 (by omega) (by omega)];omega
   have ET:=U.mk eT;have ES:=U.mk (And.intro es (And.intro hs1 hs2));have hlt1:(i:Int) < (l0.length:Int):=by omega
   have hlt2:decide ((i:Int) < (l0.length:Int))=true:=decide_eq_true hlt1;have HLT:=U.mk hlt;obtain⟨c,ec⟩ : ∃ c:Nat,c=8 * (i + 1) - s:=⟨_,rfl⟩;rw[← ec] at hb8;have EC:=U.mk ec;clear hll hi0 eV eb es hs1 hs2 eT hvr hp hlt ec;go_wp2;simp only[hV1,hx1,hb8]
   go_loopw [5] (fun v5 W=>∃ (Q:Nat),v5=.int .i64 ((8 * (i + 1) - 5 * Q:Nat):Int)∧U (s≤5 * Q∧5 * Q≤8 * (i + 1))∧U (Lib.IsBuilder 67 5 B B (Lib.byteCells (armU l0 Q)) W)∧U (Below w.heap.size w W)) (fun v5 _=>(intOf v5).toNat)
   case atStart=>exact⟨8 * i / 5,by rw[EC.out,ES.out.1],⟨by have:=ES.out.1;omega,by omega⟩,HI,HW⟩
   case round =>
    clear HI HW;obtain⟨Q,rfl,HQ,HI,HW⟩:=hrel
    by_cases h5 : 5 * Q + 5≤8 * (i + 1)
    ·obtain⟨g,eg⟩ : ∃ g:Nat,g=8 * (i + 1) - 5 * Q:=⟨_,rfl⟩;obtain⟨g1,eg1⟩ : ∃ g1:Nat,g1=8 * (i + 1) - (5 * Q + 5):=⟨_,rfl⟩;obtain⟨N,eN⟩ : ∃ N,N=val l0 (5 * Q) 5:=⟨_,rfl⟩;have eS:shr .i64 T (g1:Int)=T / 2 ^ min g1 64:=by unfold shr;rw[Int.toNat_natCast];rfl
     have hN:Go.bits .and .i64 (T / 2 ^ min g1 64) 31=N:=by
      rw[← eS,eg1,eN,ET.out];exact val_letter l0 s Q (8 * (i + 1)) HQ.out.1 h5 (by have:=ES.out.2.2;omega)
     have hNr:=val_range l0 (5 * Q) 5;rw[← eN] at hNr;have hN0 : 0≤N:=hNr.1;have hN1:N < 32:=hNr.2;have hg5:wrap64 ((g:Int) - 5)=(g1:Int):=by have:=HL.out;have:=HLT.out;rw[w64 (by omega) (by omega)];omega
     have hge:decide (5≤(g:Int))=true:=decide_eq_true (by omega);have hg0:decide ((g1:Int) < 0)=false:=decide_eq_false (by omega);have hg0':(0:Int)≤(g1:Int):=by omega
     rw[← eg];have EG:=U.mk (And.intro eg eg1);have EN:=U.mk eN;have H5:=U.mk h5;clear eg eg1 eN hNr eS h5;have HLEN:U ((Lib.byteCells (armU l0 Q)).length + 1≤140737488355328):=⟨by have:=HL.out;have:=HLT.out;have:=HQ.out;rw[Lib.byteCells_length,armU_len];omega⟩;have HBS:U (B≤wr.heap.size):=⟨by have:=HW.out.size;rw[← HBB.out];exact this⟩;go_wp2_with (go_at_call 46;refine(writeByte_calls B B (Lib.byteCells (armU l0 Q)) _ _ HI.out HLEN.out HBS.out).mono ?_)
     rintro e w2 ⟨rfl,hI2,hB2⟩
     have HI2:U (Lib.IsBuilder 67 5 B B (Lib.byteCells (armU l0 (Q + 1))) w2):=⟨by
      have e:Lib.byteCells (armU l0 (Q + 1))=Lib.byteCells (armU l0 Q) ++ [Value.int .u8 (bt lettersB N)]:=by
       rw[bt_let hN0 hN1,EN.out];simp[armU,Lib.byteCells]
      rw[e,← bt_at lettersB N (show N.toNat < 32 by omega)];exact Or.inr hI2⟩
     have HW2:U (Below w.heap.size w w2):=⟨HW.out.trans (by rw[HBB.out];exact hB2)⟩;clear hI2 hB2;go_wp2;go_roundw
     case rel =>
      refine⟨Q + 1,?_,⟨by have:=HQ.out;omega,by have:=H5.out;omega⟩,HI2,HW2⟩;exact congrArg (fun n:Nat=>Value.int .i64 (n:Int)) (by have:=EG.out;omega)
     case measure=>have:=EG.out;have:=H5.out;simp[intOf];omega
    ·have hlt5:decide (5≤((8 * (i + 1) - 5 * Q:Nat):Int))=false:=decide_eq_false (by omega);have EQ:U (Q=8 * (i + 1) / 5):=⟨by have:=HQ.out;omega⟩;obtain⟨g,eg⟩ : ∃ g:Nat,g=8 * (i + 1) - 5 * Q:=⟨_,rfl⟩;rw[← eg] at hlt5 ⊢;have hm:=val_mask l0 s Q (8 * (i + 1)) HQ.out.1 HQ.out.2 (by have:=ES.out.2.2;omega);rw[← ET.out,← eg] at hm;have EG:=U.mk eg;have HM:=U.mk hm;clear h5 eg hm;go_wp2;have hg4:g≤4:=by have:=EG.out;have:=of_decide_eq_false hlt5;omega
     have e3:wrap64 ((i:Int) + 1)=((i + 1:Nat):Int):=by have:=HL.out;have:=HLT.out;rw[w64 (by omega) (by omega)];rfl
     have ep:∀ p:Int,1≤p→p≤16→wrap64 p=p∧wrap64 (p - 1)=p - 1:=fun p h0 h1=>⟨w64 (by omega) (by omega),w64 (by omega) (by omega)⟩
     have hp:(1:Int)≤2 ^ g∧(2:Int) ^ g≤16:=by
      rcases g with _|_|_|_|_|g
      ·decide
      ·decide
      ·decide
      ·decide
      ·decide
      ·omega
     have em:min g 64=g:=Nat.min_eq_left (by omega);have e1:wrap64 (2 ^ min g 64)=2 ^ g:=by rw[em];exact(ep _ hp.1 hp.2).1
     have e2:wrap64 (2 ^ g - 1:Int)=2 ^ g - 1:=(ep _ hp.1 hp.2).2;clear hp em ep;rw[e1,e2,HM.out,e3];clear e1 e2;refine⟨⟨i + 1,_,_,rfl,rfl,rfl,⟨HLT.out,?_,?_⟩,?_,HW⟩,?_⟩
     ·rw[← EQ.out,EG.out]
     ·rw[← EQ.out,EG.out]
     ·rw[← EQ.out];exact HI
     ·show l0.length - (((i + 1:Nat):Int)).toNat < l0.length - ((i:Int)).toNat
      rw[Int.toNat_natCast,Int.toNat_natCast];exact Nat.sub_lt_sub_left HLT.out (Nat.lt_succ_self i)
  ·obtain⟨hi0,eV,eb⟩:=HV.out;obtain rfl:i=l0.length:=by omega
   have hlt2:decide ((l0.length:Int) < (l0.length:Int))=false:=decide_eq_false (by omega);obtain⟨Q,eQ⟩ : ∃ Q,Q=8 * l0.length / 5:=⟨_,rfl⟩;obtain⟨g,eg⟩ : ∃ g:Nat,g=8 * l0.length - 5 * Q:=⟨_,rfl⟩;rw[← eQ,← eg] at eV eb;rw[← eQ] at HI;subst eb;have hll:=HL.out;have HBS:U (B≤wr.heap.size):=⟨by have:=HW.out.size;rw[← HBB.out];exact this⟩;have HLEN:U ((Lib.byteCells (armU l0 Q)).length + 1≤140737488355328):=⟨by rw[Lib.byteCells_length,armU_len];omega⟩
   by_cases hg0 : 0 < g
   ·have hgd:decide (0 < (g:Int))=true:=decide_eq_true (by omega);obtain⟨N,eN⟩ : ∃ N,N=val l0 (5 * Q) 5:=⟨_,rfl⟩;have hlast:=val_last l0 Q g (by omega) (by omega);rw[← eV,← eN] at hlast;have hNr:=val_range l0 (5 * Q) 5;rw[← eN] at hNr;have hN0 : 0≤N:=hNr.1;have hN1:N < 32:=hNr.2;have HLAST:=U.mk hlast;clear hlast;have HEND:U (armU l0 (Q + 1)=armU l0 (armN l0)):=⟨by rw[show armN l0=Q + 1 by unfold armN;omega]⟩;have h5g:wrap64 (5 - (g:Int))=((5 - g:Nat):Int):=by rw[w64 (by omega) (by omega)];omega
    have HNT:U (N.toNat < 32):=⟨by omega⟩;have hM2:Go.bits .and .i64 N 31=N:=and31 N hN0 hN1;have hM1:wrap64 (V * 2 ^ (5 - g))=N:=by rw[HLAST.out];exact w64 (Int.le_trans (by decide) hN0) (Int.le_of_lt (Int.lt_of_lt_of_le hN1 (by decide)))
    have EN:=U.mk eN;clear eN hNr hi0 eV eQ eg hll;go_wp2_with (go_at_call 46;refine(writeByte_calls B B (Lib.byteCells (armU l0 Q)) _ _ HI.out HLEN.out HBS.out).mono ?_)
    rintro e w2 ⟨rfl,hI2,hB2⟩
    have HI2:U (Lib.IsBuilder 67 5 B B (Lib.byteCells (armU l0 (armN l0))) w2):=⟨by
     have e:Lib.byteCells (armU l0 (Q + 1))=Lib.byteCells (armU l0 Q) ++ [Value.int .u8 (bt lettersB N)]:=by
      rw[bt_let hN0 hN1,EN.out];simp[armU,Lib.byteCells]
     rw[← HEND.out,e,← bt_at lettersB N HNT.out];exact Or.inr hI2⟩
    have HW2:U (Below w.heap.size w w2):=⟨HW.out.trans (by rw[HBB.out];exact hB2)⟩;have HBS2:U (B≤w2.heap.size):=⟨by have:=HW2.out.size;rw[← HBB.out];exact this⟩;clear hI2 hB2;go_wp2_with (go_at_call 47;refine(string_calls B B (armU l0 (armN l0)) _ HI2.out HBS2.out).mono ?_)
    rintro e w3 ⟨rfl,hB3⟩
    go_wp2;go_ret
    exact⟨by rw[HRES.out];rfl,HW2.out.trans (by rw[HBB.out];exact hB3)⟩
   ·have hgd:decide (0 < (g:Int))=false:=decide_eq_false (by omega);have HEND:U (armU l0 Q=armU l0 (armN l0)):=⟨by rw[show armN l0=Q by unfold armN;omega]⟩;have HI2:U (Lib.IsBuilder 67 5 B B (Lib.byteCells (armU l0 (armN l0))) wr):=⟨by rw[← HEND.out];exact HI.out⟩;clear hi0 eV eQ eg hll;go_wp2_with (go_at_call 47;refine(string_calls B B (armU l0 (armN l0)) _ HI2.out HBS.out).mono ?_)
    rintro e w3 ⟨rfl,hB3⟩
    go_wp2;go_ret
    exact⟨by rw[HRES.out];rfl,HW.out.trans (by rw[HBB.out];exact hB3)⟩
end Go.Proofs.YtkcdefnpbnbaeaaGreatDoor.Pr
namespace Go.Proofs.YtkcdefnpbnbaeaaGreatDoor.Pr
open Go.RowKit Go.Proofs.YtkcdefnpbnbaeaaGreatDoorW.PrintWords Go.Proofs.YtkcdefnpbnbaeaaGreatDoorW.PrintLast Go.Proofs.YtkcdefnpbnbaeaaGreatDoorW.PrintMore
attribute [local go_sem] max2_int min2_int max_two min_two max_three min_three max_four min_four
set_option linter.unusedVariables false
set_option linter.unusedSimpArgs false
def qqw.f (a0:Int):Option (Bool):=if a0 ≥ 1 then(some (decide (a0 < 1073741789))) else(some false)
theorem qqw.calls (a0:Int) (r:Bool) (w:World) (h:qqw.f a0=some r) :
  Calls Tryz.prog 22 #[.int .i64 a0] w fun e w'=>e=.returned (.bool r)∧Drawn0 w w':=by
 have H:(if a0 ≥ 1 then(some (decide (a0 < 1073741789))) else(some false))=some r:=h;clear h
 by_cases c2:a0 ≥ 1
 ·rw[if_pos c2] at H;have c2b0:decide (1≤a0)=true:=decide_eq_true c2;clear c2;obtain rfl:=Option.some.inj H;go_enter Tryz.func22,Tryz.ntmps22;go_wp2;go_ret
  exact⟨by first|rfl|(simp;done)|(simp[*];done),by repeat(first|exact Drawn0.refl _|apply Drawn0.step)⟩
 ·rw[if_neg c2] at H;have c2b0:decide (1≤a0)=false:=decide_eq_false c2;clear c2;obtain rfl:=Option.some.inj H;go_enter Tryz.func22,Tryz.ntmps22;go_wp2;go_ret
  exact⟨by first|rfl|(simp;done)|(simp[*];done),by repeat(first|exact Drawn0.refl _|apply Drawn0.step)⟩
end Go.Proofs.YtkcdefnpbnbaeaaGreatDoor.Pr
namespace Go.Proofs.YtkcdefnpbnbaeaaGreatDoor.Pr
open Go.RowKit Go.Proofs.YtkcdefnpbnbaeaaGreatDoorW.PrintWords Go.Proofs.YtkcdefnpbnbaeaaGreatDoorW.PrintLast Go.Proofs.YtkcdefnpbnbaeaaGreatDoorW.PrintMore
attribute [local go_sem] max2_int min2_int max_two min_two max_three min_three max_four min_four
set_option linter.unusedVariables false
set_option linter.unusedSimpArgs false
def xx.f (a0:Int):Option (Bool):=if a0 ≥ 97 then(if a0≤122 then(some true) else(if a0 ≥ 65 then(some (decide (a0≤90))) else(some false))) else(if a0 ≥ 65 then(some (decide (a0≤90))) else(some false))
theorem xx.calls (a0:Int) (r:Bool) (w:World) (h:xx.f a0=some r) :
  Calls Tryz.prog 62 #[.int .u8 a0] w fun e w'=>e=.returned (.bool r)∧Drawn0 w w':=by
 unfold xx.f at h;have H:=h;clear h
 by_cases c2:a0 ≥ 97
 ·rw[if_pos c2] at H;have c2b0:decide (97≤a0)=true:=decide_eq_true c2;clear c2
  by_cases c3:a0≤122
  ·rw[if_pos c3] at H;have c3b0:decide (a0≤122)=true:=decide_eq_true c3;clear c3;obtain rfl:=Option.some.inj H;go_enter Tryz.func62,Tryz.ntmps62;go_wp2;go_ret
   exact⟨by first|rfl|(simp;done)|(simp[*];done),by repeat(first|exact Drawn0.refl _|apply Drawn0.step)⟩
  ·rw[if_neg c3] at H;have c3b0:decide (a0≤122)=false:=decide_eq_false c3;clear c3
   by_cases c4:a0 ≥ 65
   ·rw[if_pos c4] at H;have c4b0:decide (65≤a0)=true:=decide_eq_true c4;clear c4;obtain rfl:=Option.some.inj H;go_enter Tryz.func62,Tryz.ntmps62;go_wp2;go_ret
    exact⟨by first|rfl|(simp;done)|(simp[*];done),by repeat(first|exact Drawn0.refl _|apply Drawn0.step)⟩
   ·rw[if_neg c4] at H;have c4b0:decide (65≤a0)=false:=decide_eq_false c4;clear c4;obtain rfl:=Option.some.inj H;go_enter Tryz.func62,Tryz.ntmps62;go_wp2;go_ret
    exact⟨by first|rfl|(simp;done)|(simp[*];done),by repeat(first|exact Drawn0.refl _|apply Drawn0.step)⟩
 ·rw[if_neg c2] at H;have c2b0:decide (97≤a0)=false:=decide_eq_false c2;clear c2
  by_cases c5:a0 ≥ 65
  ·rw[if_pos c5] at H;have c5b0:decide (65≤a0)=true:=decide_eq_true c5;clear c5;obtain rfl:=Option.some.inj H;go_enter Tryz.func62,Tryz.ntmps62;go_wp2;go_ret
   exact⟨by first|rfl|(simp;done)|(simp[*];done),by repeat(first|exact Drawn0.refl _|apply Drawn0.step)⟩
  ·rw[if_neg c5] at H;have c5b0:decide (65≤a0)=false:=decide_eq_false c5;clear c5;obtain rfl:=Option.some.inj H;go_enter Tryz.func62,Tryz.ntmps62;go_wp2;go_ret
   exact⟨by first|rfl|(simp;done)|(simp[*];done),by repeat(first|exact Drawn0.refl _|apply Drawn0.step)⟩
end Go.Proofs.YtkcdefnpbnbaeaaGreatDoor.Pr
namespace Go.Proofs.YtkcdefnpbnbaeaaGreatDoor.Pr
open Go.RowKit Go.Proofs.YtkcdefnpbnbaeaaGreatDoorW.PrintWords Go.Proofs.YtkcdefnpbnbaeaaGreatDoorW.PrintLast Go.Proofs.YtkcdefnpbnbaeaaGreatDoorW.PrintMore
attribute [local go_sem] max2_int min2_int max_two min_two max_three min_three max_four min_four
set_option linter.unusedVariables false
set_option linter.unusedSimpArgs false
def xk.f (a0:Int):Option (Bool):=if a0 ≥ 48 then(some (decide (a0≤57))) else(some false)
theorem xk.calls (a0:Int) (r:Bool) (w:World) (h:xk.f a0=some r) :
  Calls Tryz.prog 63 #[.int .u8 a0] w fun e w'=>e=.returned (.bool r)∧Drawn0 w w':=by
 have H:(if a0 ≥ 48 then(some (decide (a0≤57))) else(some false))=some r:=h;clear h
 by_cases c2:a0 ≥ 48
 ·rw[if_pos c2] at H;have c2b0:decide (48≤a0)=true:=decide_eq_true c2;clear c2;obtain rfl:=Option.some.inj H;go_enter Tryz.func63,Tryz.ntmps63;go_wp2;go_ret
  exact⟨by first|rfl|(simp;done)|(simp[*];done),by repeat(first|exact Drawn0.refl _|apply Drawn0.step)⟩
 ·rw[if_neg c2] at H;have c2b0:decide (48≤a0)=false:=decide_eq_false c2;clear c2;obtain rfl:=Option.some.inj H;go_enter Tryz.func63,Tryz.ntmps63;go_wp2;go_ret
  exact⟨by first|rfl|(simp;done)|(simp[*];done),by repeat(first|exact Drawn0.refl _|apply Drawn0.step)⟩
end Go.Proofs.YtkcdefnpbnbaeaaGreatDoor.Pr
namespace Go.Proofs.YtkcdefnpbnbaeaaGreatDoor.Pr
open Go.RowKit Go.Proofs.YtkcdefnpbnbaeaaGreatDoorW.PrintWords Go.Proofs.YtkcdefnpbnbaeaaGreatDoorW.PrintLast Go.Proofs.YtkcdefnpbnbaeaaGreatDoorW.PrintMore
attribute [local go_sem] max2_int min2_int max_two min_two max_three min_three max_four min_four
set_option linter.unusedVariables false
set_option linter.unusedSimpArgs false
def qqx.f (a0:Int):Option (Bool):=(xx.f a0).bind fun t101=>(if t101=true then(some true) else((xk.f a0).bind fun t102=>(if t102=true then(some true) else(some (a0 == 95)))))
theorem qqx.calls (a0:Int) (r:Bool) (w:World) (h:qqx.f a0=some r) :
  Calls Tryz.prog 42 #[.int .u8 a0] w fun e w'=>e=.returned (.bool r)∧Drawn0 w w':=by
 unfold qqx.f at h;have H:=h;clear h;replace H:=jq8.mp H;obtain⟨t101,A20,H⟩:=H;try dsimp only at H
 have A2:=U.mk A20;clear A20
 by_cases c3:t101=true
 ·subst c3;have H1:(some true)=some r:=by rw[if_pos rfl] at H;exact H
  clear H;have H:=H1;clear H1;obtain rfl:=Option.some.inj H;go_enter Tryz.func42,Tryz.ntmps42;go_wp2_with (first|((with_reducible refine zx (f:=62) rfl ?_);refine goesL_ (some 4) rfl rfl Tryz.func62 (by kernel_rfl) rfl #[.int .u8 a0] rfl (by(try simp only[jq0,jq1,jq2]);first|done|rfl|(simp only[jq3,jq4];rfl)) ?_;(with_reducible refine(xx.calls a0 true _ A2.out).mono ?_);rintro e w' ⟨rfl,⟨nd,rfl⟩⟩;refine⟨_,rfl,?_⟩))
  go_ret
  exact⟨by first|rfl|(simp;done)|(simp[*];done),by repeat(first|exact Drawn0.refl _|apply Drawn0.step)⟩
 ·replace c3:=jq9.mpr c3;subst c3;have H1:((xk.f a0).bind fun t102=>(if t102=true then(some true) else(some (a0 == 95))))=some r:=by rw[if_neg (show ¬ (false=true) by decide)] at H;exact H
  clear H;have H:=H1;clear H1;replace H:=jq8.mp H;obtain⟨t102,A40,H⟩:=H;try dsimp only at H
  have A4:=U.mk A40;clear A40
  by_cases c5:t102=true
  ·subst c5;have H1:(some true)=some r:=by rw[if_pos rfl] at H;exact H
   clear H;have H:=H1;clear H1;obtain rfl:=Option.some.inj H;go_enter Tryz.func42,Tryz.ntmps42;go_wp2_with (first|((with_reducible refine zx (f:=62) rfl ?_);refine goesL_ (some 4) rfl rfl Tryz.func62 (by kernel_rfl) rfl #[.int .u8 a0] rfl (by(try simp only[jq0,jq1,jq2]);first|done|rfl|(simp only[jq3,jq4];rfl)) ?_;(with_reducible refine(xx.calls a0 false _ A2.out).mono ?_);rintro e w' ⟨rfl,⟨nd,rfl⟩⟩;refine⟨_,rfl,?_⟩)|(go_at_call 63;(with_reducible refine(xk.calls a0 true _ A4.out).mono ?_);rintro e w' ⟨rfl,⟨nd,rfl⟩⟩))
   go_ret
   exact⟨by first|rfl|(simp;done)|(simp[*];done),by repeat(first|exact Drawn0.refl _|apply Drawn0.step)⟩
  ·replace c5:=jq9.mpr c5;subst c5;have H1:(some (a0 == 95))=some r:=by rw[if_neg (show ¬ (false=true) by decide)] at H;exact H
   clear H;have H:=H1;clear H1;obtain rfl:=Option.some.inj H;go_enter Tryz.func42,Tryz.ntmps42;go_wp2_with (first|((with_reducible refine zx (f:=62) rfl ?_);refine goesL_ (some 4) rfl rfl Tryz.func62 (by kernel_rfl) rfl #[.int .u8 a0] rfl (by(try simp only[jq0,jq1,jq2]);first|done|rfl|(simp only[jq3,jq4];rfl)) ?_;(with_reducible refine(xx.calls a0 false _ A2.out).mono ?_);rintro e w' ⟨rfl,⟨nd,rfl⟩⟩;refine⟨_,rfl,?_⟩)|(go_at_call 63;(with_reducible refine(xk.calls a0 false _ A4.out).mono ?_);rintro e w' ⟨rfl,⟨nd,rfl⟩⟩))
   go_ret
   exact⟨by first|rfl|(simp;done)|(simp[*];done),by repeat(first|exact Drawn0.refl _|apply Drawn0.step)⟩
end Go.Proofs.YtkcdefnpbnbaeaaGreatDoor.Pr
namespace Go.Proofs.YtkcdefnpbnbaeaaGreatDoor.Pr
open Go.RowKit Go.Proofs.YtkcdefnpbnbaeaaGreatDoorW.PrintWords Go.Proofs.YtkcdefnpbnbaeaaGreatDoorW.PrintLast Go.Proofs.YtkcdefnpbnbaeaaGreatDoorW.PrintMore
attribute [local go_sem] max2_int min2_int max_two min_two max_three min_three max_four min_four
set_option linter.unusedVariables false
set_option linter.unusedSimpArgs false
mutual
def xv.j0:Nat→ByteArray→Bool→Option (Bool)
 | 0,_,_=>none
 | k + 1,x0,x11=>if x11=true then(some false) else(xv.l0 k x0 (x0.size:Int) 0)
def xv.l0:Nat→ByteArray→Int→Int→Option (Bool)
 | 0,_,_,_=>none
 | k + 1,x0,x13,x14=>if x14 < x13 then(if 0≤x14 then(if x14 < (x0.size:Int) then((qqx.f (bt x0 x14)).bind fun t101=>(if t101=true then(xv.l0 k x0 x13 (wrap64 (x14 + 1))) else(if (bt x0 x14)=45 then(xv.l0 k x0 x13 (wrap64 (x14 + 1))) else(if (bt x0 x14)=46 then(xv.l0 k x0 x13 (wrap64 (x14 + 1))) else(some false))))) else(none)) else(none)) else(some true)
end
def xv.f (k:Nat) (a0:ByteArray):Option (Bool):=if (a0.size:Int) < 1 then(xv.j0 k a0 true) else(xv.j0 k a0 (decide ((a0.size:Int) > 40)))
theorem xv.calls (k:Nat) (a0:ByteArray) (r:Bool) (w:World) (h:xv.f k a0=some r) :
  Calls Tryz.prog 23 #[.string a0] w fun e w'=>e=.returned (.bool r)∧Drawn0 w w':=by
 unfold xv.f at h;have H:=h;clear h;have HC2:=U.mk H;clear H;go_enter Tryz.func23,Tryz.ntmps23;go_upto_region 1 with (fail)
 go_cut [11] (fun v11 wc=>∃ (kq:Nat) (x11_1:Bool),v11=.bool x11_1∧U (xv.j0 kq a0 x11_1=some r)∧U (kq≤k)∧Drawn0 w wc)
 case first =>
  have H:=HC2.out;clear HC2
  by_cases c3:(a0.size:Int) < 1
  ·rw[if_pos c3] at H;have c3b0:decide ((a0.size:Int) < 1)=true:=decide_eq_true c3;have c3b1:decide (a0.size < 1)=true:=decide_eq_true (by omega);clear c3
   (first|rw[c3b0]|(simp only[i64_w,i32_w];rw[c3b0])|skip)
   have H':=U.mk H;clear H;go_wp2;go_meet
   case rel=>exact⟨_,(true),(by first|rfl|(simp;done)|(simp[*];done)),H',⟨by first|omega|exact Nat.le_refl _⟩,by repeat(first|exact Drawn0.refl _|apply Drawn0.step)⟩
  ·rw[if_neg c3] at H;have c3b0:decide ((a0.size:Int) < 1)=false:=decide_eq_false c3;have c3b1:decide (a0.size < 1)=false:=decide_eq_false (by omega);clear c3
   (first|rw[c3b0]|(simp only[i64_w,i32_w];rw[c3b0])|skip)
   have H':=U.mk H;clear H;go_wp2;go_meet
   case rel=>exact⟨_,(decide ((a0.size:Int) > 40)),(by first|rfl|(simp;done)|(simp[*];done)),H',⟨by first|omega|exact Nat.le_refl _⟩,by repeat(first|exact Drawn0.refl _|apply Drawn0.step)⟩
 case rest =>
  clear HC2;try clear c2
  try clear p2
  try clear c3
  try clear c3b0
  try clear c3b1
  obtain⟨kq,x11_1,rfl,HA,HJ1,⟨mc1,rfl⟩⟩:=hcut
  cases kq with
  | zero=>exact absurd HA.out (by simp[xv.j0])
  | succ kj1 =>
   have H:=HA.out;clear HA;simp only[xv.j0] at H
   by_cases c4:x11_1=true
   ·subst c4;have H1:(some false)=some r:=by rw[if_pos rfl] at H;exact H
    clear H;have H:=H1;clear H1;obtain rfl:=Option.some.inj H;go_wp2;go_ret
    exact⟨by first|rfl|(simp;done)|(simp[*];done),by repeat(first|exact Drawn0.refl _|apply Drawn0.step)⟩
   ·replace c4:=jq9.mpr c4;subst c4;have H1:(xv.l0 kj1 a0 (a0.size:Int) 0)=some r:=by rw[if_neg (show ¬ (false=true) by decide)] at H;exact H
    clear H;have H:=H1;clear H1;have H':=U.mk H;clear H;go_wp2
    go_loopg [14] kj1 (fun kq v14 w'=>∃ (x14_2:Int),v14=.int .i64 x14_2∧U (xv.l0 kq a0 (a0.size:Int) x14_2=some r)∧U (kq≤kj1)∧Drawn0 w w')
    case atStart=>exact⟨(0),(by first|rfl|(simp;done)|(simp[*];done)),H',⟨Nat.le_refl _⟩,by repeat(first|exact Drawn0.refl _|apply Drawn0.step)⟩
    case round =>
     clear H';try clear c1
     try clear c2
     try clear p2 p2
     try clear c3
     try clear c3b0
     try clear c3b1
     try clear c4
     obtain⟨x14_2,rfl,HA,HK2,⟨m2,rfl⟩⟩:=hrel
     cases gk with
     | zero=>exact absurd HA.out (by simp[xv.l0])
     | succ k2 =>
      have H:=HA.out;clear HA;simp only[xv.l0] at H
      by_cases c5:x14_2 < (a0.size:Int)
      ·rw[if_pos c5] at H;have c5b0:decide (x14_2 < (a0.size:Int))=true:=decide_eq_true c5;clear c5
       by_cases c6 : 0≤x14_2
       ·rw[if_pos c6] at H;have c6b0:decide (0≤x14_2)=true:=decide_eq_true c6;clear c6
        by_cases c7:x14_2 < (a0.size:Int)
        ·rw[if_pos c7] at H;have c7b0:decide (x14_2 < (a0.size:Int))=true:=decide_eq_true c7;clear c7;replace H:=jq8.mp H;obtain⟨t101,A90,H⟩:=H;try dsimp only at H
         have A9:=U.mk A90;clear A90
         by_cases c10:t101=true
         ·subst c10;have H1:(xv.l0 k2 a0 (a0.size:Int) (wrap64 (x14_2 + 1)))=some r:=by rw[if_pos rfl] at H;exact H
          clear H;have H:=H1;clear H1;have H':=U.mk H;clear H;have p8 : 0≤(x14_2:Int):=of_decide_eq_true (by assumption);have q8:x14_2 < (a0.size:Int):=of_decide_eq_true (by assumption);have hx8:=bt_at a0 x14_2;replace p8:=eq_true p8;replace q8:=eq_true q8;go_wp2_with (first|((with_reducible refine zx (f:=42) rfl ?_);refine goesL_ (some 20) rfl rfl Tryz.func42 (by kernel_rfl) rfl #[.int .u8 (bt a0 x14_2)] rfl (by(try simp only[jq0,jq1,jq2]);first|done|rfl|(simp only[jq3,jq4];rfl)) ?_;(with_reducible refine(qqx.calls (bt a0 x14_2) true _ A9.out).mono ?_);rintro e w' ⟨rfl,⟨nd,rfl⟩⟩;refine⟨_,rfl,?_⟩))
          go_roundg k2
          case measure=>have:=HJ1.out;have:=HK2.out;omega
          case rel=>exact⟨(wrap64 (x14_2 + 1)),(by first|rfl|(simp;done)|(simp[*];done)),H',⟨by have:=HJ1.out;have:=HK2.out;omega⟩,by repeat(first|exact Drawn0.refl _|apply Drawn0.step)⟩
         ·replace c10:=jq9.mpr c10;subst c10;have H1:(if (bt a0 x14_2)=45 then(xv.l0 k2 a0 (a0.size:Int) (wrap64 (x14_2 + 1))) else(if (bt a0 x14_2)=46 then(xv.l0 k2 a0 (a0.size:Int) (wrap64 (x14_2 + 1))) else(some false)))=some r:=by rw[if_neg (show ¬ (false=true) by decide)] at H;exact H
          clear H;have H:=H1;clear H1
          by_cases c12:(bt a0 x14_2)=45
          ·rw[if_pos c12] at H;have c12b0:((bt a0 x14_2) == 45)=true:=beq_iff_eq.mpr c12;have c12b1:((bt a0 x14_2) != 45)=false:=bne_eq_false_iff_eq.mpr c12;clear c12;have H':=U.mk H;clear H;have p8 : 0≤(x14_2:Int):=of_decide_eq_true (by assumption);have q8:x14_2 < (a0.size:Int):=of_decide_eq_true (by assumption);have hx8:=bt_at a0 x14_2;replace p8:=eq_true p8;replace q8:=eq_true q8;go_wp2_with (first|((with_reducible refine zx (f:=42) rfl ?_);refine goesL_ (some 20) rfl rfl Tryz.func42 (by kernel_rfl) rfl #[.int .u8 (bt a0 x14_2)] rfl (by(try simp only[jq0,jq1,jq2]);first|done|rfl|(simp only[jq3,jq4];rfl)) ?_;(with_reducible refine(qqx.calls (bt a0 x14_2) false _ A9.out).mono ?_);rintro e w' ⟨rfl,⟨nd,rfl⟩⟩;refine⟨_,rfl,?_⟩;have p11 : 0≤(x14_2:Int):=of_decide_eq_true (by assumption);have q11:x14_2 < (a0.size:Int):=of_decide_eq_true (by assumption);have hx11:=bt_at a0 x14_2;replace p11:=eq_true p11;replace q11:=eq_true q11))
           go_roundg k2
           case measure=>have:=HJ1.out;have:=HK2.out;omega
           case rel=>exact⟨(wrap64 (x14_2 + 1)),(by first|rfl|(simp;done)|(simp[*];done)),H',⟨by have:=HJ1.out;have:=HK2.out;omega⟩,by repeat(first|exact Drawn0.refl _|apply Drawn0.step)⟩
          ·rw[if_neg c12] at H;have c12b0:((bt a0 x14_2) == 45)=false:=beq_eq_false_iff_ne.mpr c12;have c12b1:((bt a0 x14_2) != 45)=true:=bne_iff_ne.mpr c12
           by_cases c14:(bt a0 x14_2)=46
           ·rw[if_pos c14] at H;have c14b0:((bt a0 x14_2) == 46)=true:=beq_iff_eq.mpr c14;have c14b1:((bt a0 x14_2) != 46)=false:=bne_eq_false_iff_eq.mpr c14;clear c14;have H':=U.mk H;clear H;have p8 : 0≤(x14_2:Int):=of_decide_eq_true (by assumption);have q8:x14_2 < (a0.size:Int):=of_decide_eq_true (by assumption);have hx8:=bt_at a0 x14_2;replace p8:=eq_true p8;replace q8:=eq_true q8;go_wp2_with (first|((with_reducible refine zx (f:=42) rfl ?_);refine goesL_ (some 20) rfl rfl Tryz.func42 (by kernel_rfl) rfl #[.int .u8 (bt a0 x14_2)] rfl (by(try simp only[jq0,jq1,jq2]);first|done|rfl|(simp only[jq3,jq4];rfl)) ?_;(with_reducible refine(qqx.calls (bt a0 x14_2) false _ A9.out).mono ?_);rintro e w' ⟨rfl,⟨nd,rfl⟩⟩;refine⟨_,rfl,?_⟩;have p11 : 0≤(x14_2:Int):=of_decide_eq_true (by assumption);have q11:x14_2 < (a0.size:Int):=of_decide_eq_true (by assumption);have hx11:=bt_at a0 x14_2;replace p11:=eq_true p11;replace q11:=eq_true q11;have p13 : 0≤(x14_2:Int):=of_decide_eq_true (by assumption);have q13:x14_2 < (a0.size:Int):=of_decide_eq_true (by assumption);have hx13:=bt_at a0 x14_2;replace p13:=eq_true p13;replace q13:=eq_true q13))
            go_roundg k2
            case measure=>have:=HJ1.out;have:=HK2.out;omega
            case rel=>exact⟨(wrap64 (x14_2 + 1)),(by first|rfl|(simp;done)|(simp[*];done)),H',⟨by have:=HJ1.out;have:=HK2.out;omega⟩,by repeat(first|exact Drawn0.refl _|apply Drawn0.step)⟩
           ·rw[if_neg c14] at H;have c14b0:((bt a0 x14_2) == 46)=false:=beq_eq_false_iff_ne.mpr c14;have c14b1:((bt a0 x14_2) != 46)=true:=bne_iff_ne.mpr c14;obtain rfl:=Option.some.inj H;have p8 : 0≤(x14_2:Int):=of_decide_eq_true (by assumption);have q8:x14_2 < (a0.size:Int):=of_decide_eq_true (by assumption);have hx8:=bt_at a0 x14_2;replace p8:=eq_true p8;replace q8:=eq_true q8;go_wp2_with (first|((with_reducible refine zx (f:=42) rfl ?_);refine goesL_ (some 20) rfl rfl Tryz.func42 (by kernel_rfl) rfl #[.int .u8 (bt a0 x14_2)] rfl (by(try simp only[jq0,jq1,jq2]);first|done|rfl|(simp only[jq3,jq4];rfl)) ?_;(with_reducible refine(qqx.calls (bt a0 x14_2) false _ A9.out).mono ?_);rintro e w' ⟨rfl,⟨nd,rfl⟩⟩;refine⟨_,rfl,?_⟩;have p11 : 0≤(x14_2:Int):=of_decide_eq_true (by assumption);have q11:x14_2 < (a0.size:Int):=of_decide_eq_true (by assumption);have hx11:=bt_at a0 x14_2;replace p11:=eq_true p11;replace q11:=eq_true q11;have p13 : 0≤(x14_2:Int):=of_decide_eq_true (by assumption);have q13:x14_2 < (a0.size:Int):=of_decide_eq_true (by assumption);have hx13:=bt_at a0 x14_2;replace p13:=eq_true p13;replace q13:=eq_true q13))
            go_ret
            exact⟨by first|rfl|(simp;done)|(simp[*];done),by repeat(first|exact Drawn0.refl _|apply Drawn0.step)⟩
        ·rw[if_neg c7] at H;exact absurd H (by simp)
       ·rw[if_neg c6] at H;exact absurd H (by simp)
      ·rw[if_neg c5] at H;have c5b0:decide (x14_2 < (a0.size:Int))=false:=decide_eq_false c5;clear c5;obtain rfl:=Option.some.inj H;go_wp2;go_ret
       exact⟨by first|rfl|(simp;done)|(simp[*];done),by repeat(first|exact Drawn0.refl _|apply Drawn0.step)⟩
end Go.Proofs.YtkcdefnpbnbaeaaGreatDoor.Pr
namespace Go.Proofs.YtkcdefnpbnbaeaaGreatDoor.Pr
open Go.RowKit Go.Proofs.YtkcdefnpbnbaeaaGreatDoorW.PrintWords Go.Proofs.YtkcdefnpbnbaeaaGreatDoorW.PrintLast Go.Proofs.YtkcdefnpbnbaeaaGreatDoorW.PrintMore
def anyO {α:Type} (p : α→Option Bool):List α→Option Bool
 | []=>some false
 | x :: xs=>(p x).bind fun b=>if b=true then some true else anyO p xs
theorem anyO_mono {α:Type} {p q : α→Option Bool} (h:∀ x,LeO (p x) (q x)):∀ l:List α,LeO (anyO p l) (anyO q l)
 | []=>LeO.refl _
 | x :: xs=>LeO.bind (h x) (fun _=>LeO.ite (LeO.refl _) (anyO_mono h xs))
theorem anyO_drop {α:Type} {p : α→Option Bool} {l:List α} {k:Nat} {r:Bool} (hk:k < l.length) (h:anyO p (l.drop k)=some r):∃ b,p l[k]=some b∧(b=true→r=true)∧(b=false→anyO p (l.drop (k + 1))=some r):=by
 rw[List.drop_eq_getElem_cons hk] at h;obtain⟨b,hb,h2⟩:=jq8.1 h;refine⟨b,hb,fun e=>?_,fun e=>?_⟩
 ·subst e;simpa using h2.symm
 ·subst e;simpa using h2
end Go.Proofs.YtkcdefnpbnbaeaaGreatDoor.Pr
namespace Go.Proofs.YtkcdefnpbnbaeaaGreatDoor.Pr
open Go.RowKit Go.Proofs.YtkcdefnpbnbaeaaGreatDoorW.PrintWords Go.Proofs.YtkcdefnpbnbaeaaGreatDoorW.PrintLast Go.Proofs.YtkcdefnpbnbaeaaGreatDoorW.PrintMore
set_option linter.unusedVariables false
set_option linter.unusedSimpArgs false
set_option maxHeartbeats 1000000 in
theorem indexT30_calls (fn:Nat) (p:S30→Option Bool) (eg:Enters Tryz.prog fn) (hp:∀ (x:S30) (b:Bool) (W:World),p x=some b→Calls Tryz.prog fn #[.agg #[.int .i64 (x.f0),.int .i64 (x.f1),.string (x.f2),.string (x.f3)]] W fun e w'=>e=.returned (.bool b)∧Below W.heap.size W w')
  (A0:Option Addr) (c0:Nat) (l0:List S30) (r:Bool) (w:World) (hr0:Kd.C k30 w A0 l0.length l0) (h:anyO p l0=some r) :
  Calls Tryz.prog 88 #[.slice A0 l0.length c0,.func (.func fn) #[] #[]] w fun e w'=>∃ i:Int,e=.returned (.int .i64 i)∧decide (0≤i)=r∧Below w.heap.size w w':=by
 have hmax:=Kd.C_max hr0;have HR0:=U.mk hr0;have HM:=U.mk hmax;have HP:=U.mk hp;have HH:=U.mk h;clear hr0 hmax hp h;have e1:∀ (args:Array Value) (w:World),(callFunc fn args).run Tryz.prog w=.ok (.enter fn args) w:=eg;go_enter Tryz.func88,Tryz.ntmps88;go_wp2
 go_loopw [5,8] (fun v5 i W=>∃ k:Nat,k≤l0.length∧i=.int .i64 k∧U (anyO p (l0.drop k)=some r∧Below w.heap.size w W)) (fun _ i _=>l0.length - (intOf i).toNat)
 case atStart=>exact⟨0,by omega,rfl,⟨HH.out,by repeat(first|exact Below.refl _ _|apply below_drew|apply O)⟩⟩
 case round =>
  obtain⟨k,hk,rfl,HW⟩:=hrel;have hmax:=HM.out
  by_cases hlt:k < l0.length
  ·obtain⟨ad,ead,hx0,hx1,hx2,hx3⟩:=at_T30 HR0.out (k:Int) (by omega) (by omega)
   cases ead
   replace hx0:=(HW.out.2.cell (World.block_lt_of_cell? w _ hx0)).trans hx0;replace hx1:=(HW.out.2.cell (World.block_lt_of_cell? w _ hx1)).trans hx1;replace hx2:=(HW.out.2.cell (World.block_lt_of_cell? w _ hx2)).trans hx2;replace hx3:=(HW.out.2.cell (World.block_lt_of_cell? w _ hx3)).trans hx3;obtain⟨b,hb,h1,h2⟩:=anyO_drop hlt HW.out.1;have ex:kw l0 (k:Int)=l0[k]:=by simp[kw,List.getD_eq_getElem?_getD,List.getElem?_eq_getElem hlt]
   have HC:=U.mk (fun W=>HP.out l0[k] b W hb);clear hb;rw[← ex] at HC;clear ex;generalize kw l0 (k:Int)=x at HC hx0 hx1 hx2 hx3;rw[Int.toNat_natCast] at hx0 hx1 hx2 hx3
   cases b with
   | false =>
    have HB:=U.mk (h2 rfl);clear h1 h2;go_wp2_with (go_at_fn fn;refine(HC.out _).mono ?_;rintro e w' ⟨rfl,hb⟩;have HD:=U.mk (qx (by repeat(first|exact HW.out.2|apply below_drew|apply O)) hb);clear hb)
    go_roundw
    case rel=>exact⟨k + 1,by omega,by go_num,⟨HB.out,by repeat(first|exact HD.out|apply below_drew|apply O)⟩⟩
    case measure=>simp[intOf];omega
   | true =>
    have HB:=U.mk (h1 rfl);clear h1 h2;go_wp2_with (go_at_fn fn;refine(HC.out _).mono ?_;rintro e w' ⟨rfl,hb⟩;have HD:=U.mk (qx (by repeat(first|exact HW.out.2|apply below_drew|apply O)) hb);clear hb)
    go_ret
    exact⟨k,rfl,by rw[HB.out];exact decide_eq_true (by omega),by repeat(first|exact HD.out|apply below_drew|apply O)⟩
  ·obtain rfl:k=l0.length:=by omega
   rw[List.drop_length] at HW;go_wp2;go_ret
   exact⟨-1,rfl,by have:=Option.some.inj HW.out.1;rw[← this];rfl,by repeat(first|exact HW.out.2|apply below_drew|apply O)⟩
theorem containsT30_calls (fn:Nat) (p:S30→Option Bool) (eg:Enters Tryz.prog fn) (hp:∀ (x:S30) (b:Bool) (W:World),p x=some b→Calls Tryz.prog fn #[.agg #[.int .i64 (x.f0),.int .i64 (x.f1),.string (x.f2),.string (x.f3)]] W fun e w'=>e=.returned (.bool b)∧Below W.heap.size W w')
  (A0:Option Addr) (c0:Nat) (l0:List S30) (r:Bool) (w:World) (hr0:Kd.C k30 w A0 l0.length l0) (h:anyO p l0=some r) :
  Calls Tryz.prog 69 #[.slice A0 l0.length c0,.func (.func fn) #[] #[]] w fun e w'=>e=.returned (.bool r)∧Below w.heap.size w w':=by
 have C1:=U.mk (fun W (hW:Kd.C k30 W A0 l0.length l0)=>indexT30_calls fn p eg hp A0 c0 l0 r W hW h);have HR0:=U.mk hr0;clear hr0 hp h eg;go_enter Tryz.func69,Tryz.ntmps69;go_wp2_with (go_at_call 88;refine(C1.out _ (by repeat(first|exact HR0.out|apply Kd.C_drewN|apply Kd.C_drew))).mono ?_;rintro e w' ⟨i,rfl,hi,hb⟩;have HD:=U.mk (qx (by repeat(first|exact Below.refl _ _|apply below_drew|apply O)) hb);clear hb)
 go_ret
 exact⟨by simp only[← hi];rfl,by repeat(first|exact HD.out|apply below_drew|apply O)⟩
end Go.Proofs.YtkcdefnpbnbaeaaGreatDoor.Pr
namespace Go.Proofs.YtkcdefnpbnbaeaaGreatDoor.Pr
open Go.RowKit Go.Proofs.YtkcdefnpbnbaeaaGreatDoorW.PrintWords Go.Proofs.YtkcdefnpbnbaeaaGreatDoorW.PrintLast Go.Proofs.YtkcdefnpbnbaeaaGreatDoorW.PrintMore
set_option linter.unusedVariables false
set_option linter.unusedSimpArgs false
set_option maxHeartbeats 1000000 in
theorem indexStr_calls (fn:Nat) (p:ByteArray→Option Bool) (eg:Enters Tryz.prog fn) (hp:∀ (x:ByteArray) (b:Bool) (W:World),p x=some b→Calls Tryz.prog fn #[.string x] W fun e w'=>e=.returned (.bool b)∧Drawn0 W w')
  (A0:Option Addr) (c0:Nat) (l0:List ByteArray) (r:Bool) (w:World) (hr0:Kd.C Kd.string w A0 l0.length l0) (h:anyO p l0=some r) :
  Calls Tryz.prog 100 #[.slice A0 l0.length c0,.func (.func fn) #[] #[]] w fun e w'=>∃ i:Int,e=.returned (.int .i64 i)∧decide (0≤i)=r∧Drawn0 w w':=by
 have hmax:=Kd.C_max hr0;have HR0:=U.mk hr0;have HM:=U.mk hmax;have HP:=U.mk hp;have HH:=U.mk h;clear hr0 hmax hp h;have e1:∀ (args:Array Value) (w:World),(callFunc fn args).run Tryz.prog w=.ok (.enter fn args) w:=eg;go_enter Tryz.func100,Tryz.ntmps100;go_wp2
 go_loopw [5,8] (fun v5 i W=>∃ k:Nat,k≤l0.length∧i=.int .i64 k∧U (anyO p (l0.drop k)=some r∧Drawn0 w W)) (fun _ i _=>l0.length - (intOf i).toNat)
 case atStart=>exact⟨0,by omega,rfl,⟨HH.out,Drawn0.refl _⟩⟩
 case round =>
  obtain⟨k,hk,rfl,HW⟩:=hrel;have hmax:=HM.out
  by_cases hlt:k < l0.length
  ·obtain⟨ad,rfl,hcell⟩:=Kd.at_string HR0.out k (by omega) (by omega);rw[Int.toNat_natCast] at hcell;obtain⟨b,hb,h1,h2⟩:=anyO_drop hlt HW.out.1
   have hcell2:wr.cell? (ad.add k)=some (.string (l0[k])):=by
    obtain⟨⟨nd,e⟩⟩:=HW.out.2;rw[e];refine hcell.trans ?_;simp[rd,rdOf,List.getD_eq_getElem?_getD,List.getElem?_eq_getElem hlt]
   clear hcell;have HC:=U.mk (fun W=>HP.out l0[k] b W hb);clear hb;obtain⟨x,hx⟩ : ∃ x,x=l0[k]:=⟨_,rfl⟩;rw[← hx] at hcell2 HC;clear hx
   cases b with
   | false =>
    have HB:=U.mk (h2 rfl);clear h1 h2;go_wp2_with (go_at_fn fn;refine(HC.out _).mono ?_;rintro e w' ⟨rfl,⟨⟨nd,rfl⟩⟩⟩)
    go_roundw
    case rel=>exact⟨k + 1,by omega,by go_num,⟨HB.out,by repeat(first|exact HW.out.2|apply Drawn0.step)⟩⟩
    case measure=>simp[intOf];omega
   | true =>
    have HB:=U.mk (h1 rfl);clear h1 h2;go_wp2_with (go_at_fn fn;refine(HC.out _).mono ?_;rintro e w' ⟨rfl,⟨⟨nd,rfl⟩⟩⟩)
    go_ret
    exact⟨k,rfl,by rw[HB.out];exact decide_eq_true (by omega),by repeat(first|exact HW.out.2|apply Drawn0.step)⟩
  ·obtain rfl:k=l0.length:=by omega
   rw[List.drop_length] at HW;go_wp2;go_ret
   exact⟨-1,rfl,by have:=Option.some.inj HW.out.1;rw[← this];rfl,HW.out.2⟩
theorem containsStr_calls (fn:Nat) (p:ByteArray→Option Bool) (eg:Enters Tryz.prog fn) (hp:∀ (x:ByteArray) (b:Bool) (W:World),p x=some b→Calls Tryz.prog fn #[.string x] W fun e w'=>e=.returned (.bool b)∧Drawn0 W w')
  (A0:Option Addr) (c0:Nat) (l0:List ByteArray) (r:Bool) (w:World) (hr0:Kd.C Kd.string w A0 l0.length l0) (h:anyO p l0=some r) :
  Calls Tryz.prog 86 #[.slice A0 l0.length c0,.func (.func fn) #[] #[]] w fun e w'=>e=.returned (.bool r)∧Drawn0 w w':=by
 have C1:=U.mk (fun W (hW:Kd.C Kd.string W A0 l0.length l0)=>indexStr_calls fn p eg hp A0 c0 l0 r W hW h);have HR0:=U.mk hr0;clear hr0 hp h eg;go_enter Tryz.func86,Tryz.ntmps86;go_wp2_with (go_at_call 100;refine(C1.out _ HR0.out).mono ?_;rintro e w' ⟨i,rfl,hi,⟨⟨nd,rfl⟩⟩⟩)
 go_ret
 exact⟨by simp only[← hi];rfl,⟨⟨_,rfl⟩⟩⟩
end Go.Proofs.YtkcdefnpbnbaeaaGreatDoor.Pr
namespace Go.Proofs.YtkcdefnpbnbaeaaGreatDoor.Pr
open Go.RowKit Go.Proofs.YtkcdefnpbnbaeaaGreatDoorW.PrintWords Go.Proofs.YtkcdefnpbnbaeaaGreatDoorW.PrintLast Go.Proofs.YtkcdefnpbnbaeaaGreatDoorW.PrintMore
attribute [local go_sem] max2_int min2_int max_two min_two max_three min_three max_four min_four
set_option linter.unusedVariables false
set_option linter.unusedSimpArgs false
mutual
def vx.j0:Nat→ByteArray→Bool→Option (Bool)
 | 0,_,_=>none
 | k + 1,x0,x15=>if x15=true then(some false) else(vx.l0 k x0 (x0.size:Int) 0)
def vx.l0:Nat→ByteArray→Int→Int→Option (Bool)
 | 0,_,_,_=>none
 | k + 1,x0,x17,x18=>if x18 < x17 then(if 0≤x18 then(if x18 < (x0.size:Int) then((qqx.f (bt x0 x18)).bind fun t102=>(if t102=true then(vx.l0 k x0 x17 (wrap64 (x18 + 1))) else(some false))) else(none)) else(none)) else(some true)
end
def vx.f (k:Nat) (a0:ByteArray):Option (Bool):=if a0.toList=([]:List UInt8) then(vx.j0 k a0 true) else(if (a0.size:Int) > 30 then(vx.j0 k a0 true) else(if 0 < (a0.size:Int) then((xk.f (bt a0 0)).bind fun t101=>(vx.j0 k a0 t101)) else(none)))
theorem vx.mono_l:∀ k,(∀ y0 y1,LeO (vx.j0 k y0 y1) (vx.j0 (k + 1) y0 y1))∧(∀ y0 y1 y2,LeO (vx.l0 k y0 y1 y2) (vx.l0 (k + 1) y0 y1 y2))
 | 0=>⟨fun _ _ r h=>by simp[vx.j0] at h,fun _ _ _ r h=>by simp[vx.l0] at h⟩
 | k + 1=>by
  obtain⟨ih0,ih1⟩:=vx.mono_l k;refine⟨?_,?_⟩
  ·intro y0 y1
   unfold vx.j0
   repeat' first
   | (with_reducible exact ih0 _ _)
   | (with_reducible exact ih1 _ _ _)
   | (with_reducible exact LeO.refl _)
   | (with_reducible exact LeO.none _)
   | (with_reducible refine LeO.ite ?_ ?_)
   | (with_reducible refine LeO.bind ?_ (fun _=>?_))
   | exact ih0 _ _
   | exact ih1 _ _ _
   | exact LeO.none _
   | refine LeO.ite ?_ ?_
   | refine LeO.bind ?_ (fun _=>?_)
  ·intro y0 y1 y2
   unfold vx.l0
   repeat' first
   | (with_reducible exact ih0 _ _)
   | (with_reducible exact ih1 _ _ _)
   | (with_reducible exact LeO.refl _)
   | (with_reducible exact LeO.none _)
   | (with_reducible refine LeO.ite ?_ ?_)
   | (with_reducible refine LeO.bind ?_ (fun _=>?_))
   | exact ih0 _ _
   | exact ih1 _ _ _
   | exact LeO.none _
   | refine LeO.ite ?_ ?_
   | refine LeO.bind ?_ (fun _=>?_)
theorem vx.mono:∀ a0 k,LeO (vx.f k a0) (vx.f (k + 1) a0):=by
 intro a0 k
 obtain⟨ih0,ih1⟩:=vx.mono_l k;unfold vx.f
 repeat' first
   | (with_reducible exact ih0 _ _)
   | (with_reducible exact ih1 _ _ _)
   | (with_reducible exact LeO.refl _)
   | (with_reducible exact LeO.none _)
   | (with_reducible refine LeO.ite ?_ ?_)
   | (with_reducible refine LeO.bind ?_ (fun _=>?_))
   | exact ih0 _ _
   | exact ih1 _ _ _
   | exact LeO.none _
   | refine LeO.ite ?_ ?_
   | refine LeO.bind ?_ (fun _=>?_)
theorem vx.calls (k:Nat) (a0:ByteArray) (r:Bool) (w:World) (h:vx.f k a0=some r) :
  Calls Tryz.prog 84 #[.string a0] w fun e w'=>e=.returned (.bool r)∧Drawn0 w w':=by
 unfold vx.f at h;have H:=h;clear h;have HC2:=U.mk H;clear H;go_enter Tryz.func84,Tryz.ntmps84;go_upto_region 1 with (fail)
 go_cut [15] (fun v15 wc=>∃ (kq:Nat) (x15_1:Bool),v15=.bool x15_1∧U (vx.j0 kq a0 x15_1=some r)∧U (kq≤k)∧Drawn0 w wc)
 case first =>
  have H:=HC2.out;clear HC2
  by_cases c3:a0.toList=([]:List UInt8)
  ·rw[if_pos c3] at H;have c3b0:(a0.toList == ([]:List UInt8))=true:=beq_iff_eq.mpr c3;have c3b1:(a0.toList != ([]:List UInt8))=false:=bne_eq_false_iff_eq.mpr c3;clear c3
   (first|rw[c3b0]|(simp only[i64_w,i32_w];rw[c3b0])|skip)
   have H':=U.mk H;clear H;go_wp2;go_meet
   case rel=>exact⟨_,(true),(by first|rfl|(simp;done)|(simp[*];done)|(generalize ByteArray.toList _=l_;cases l_ <;> first|rfl|(simp;done))),H',⟨by first|omega|exact Nat.le_refl _⟩,by repeat(first|exact Drawn0.refl _|apply Drawn0.step)⟩
  ·rw[if_neg c3] at H;have c3b0:(a0.toList == ([]:List UInt8))=false:=beq_eq_false_iff_ne.mpr c3;have c3b1:(a0.toList != ([]:List UInt8))=true:=bne_iff_ne.mpr c3
   (first|rw[c3b0]|(simp only[i64_w,i32_w];rw[c3b0])|skip)
   by_cases c4:(a0.size:Int) > 30
   ·rw[if_pos c4] at H;have c4b0:decide (30 < (a0.size:Int))=true:=decide_eq_true c4;have c4b1:decide (30 < a0.size)=true:=decide_eq_true (by omega);clear c4;have H':=U.mk H;clear H;go_wp2;go_meet
    case rel=>exact⟨_,(true),(by first|rfl|(simp;done)|(simp[*];done)|(generalize ByteArray.toList _=l_;cases l_ <;> first|rfl|(simp;done))),H',⟨by first|omega|exact Nat.le_refl _⟩,by repeat(first|exact Drawn0.refl _|apply Drawn0.step)⟩
   ·rw[if_neg c4] at H;have c4b0:decide (30 < (a0.size:Int))=false:=decide_eq_false c4;have c4b1:decide (30 < a0.size)=false:=decide_eq_false (by omega);clear c4
    by_cases c5 : 0 < (a0.size:Int)
    ·rw[if_pos c5] at H;have c5b0:decide (0 < (a0.size:Int))=true:=decide_eq_true c5;have c5b1:decide (0 < a0.size)=true:=decide_eq_true (by omega);clear c5;replace H:=jq8.mp H;obtain⟨t101,A70,H⟩:=H;replace H:(vx.j0 k a0 t101)=some r:=H;have A7:=U.mk A70;clear A70;have H':=U.mk H;clear H;have p6 : 0≤(0:Int):=(by omega);have q6 : 0 < a0.size:=(by have:(0:Int) < (a0.size:Int):=of_decide_eq_true (by assumption);omega);have hx6:∀ h : 0 < a0.size,((a0[0]'h).toNat:Int)=bt a0 0:=bt_at a0 0;clear p6;have qi6:(0 < (a0.size:Int))=True:=eq_true (of_decide_eq_true (by assumption));replace q6:=eq_true q6;go_wp2_with (first|(go_at_call 63;(with_reducible refine(xk.calls (bt a0 0) t101 _ A7.out).mono ?_);rintro e w' ⟨rfl,⟨nd,rfl⟩⟩))
     go_meet
     case rel=>exact⟨_,(t101),(by first|rfl|(simp;done)|(simp[*];done)|(generalize ByteArray.toList _=l_;cases l_ <;> first|rfl|(simp;done))),H',⟨by first|omega|exact Nat.le_refl _⟩,by repeat(first|exact Drawn0.refl _|apply Drawn0.step)⟩
    ·rw[if_neg c5] at H;exact absurd H (by simp)
 case rest =>
  clear HC2;try clear p2
  try clear c3
  try clear c3b0
  try clear c3b1
  try clear c4
  try clear c4b0
  try clear c4b1
  try clear c5
  try clear c5b0
  try clear c5b1
  try clear p6 p6
  try clear q6 q6
  try clear hx6
  try clear qi6
  obtain⟨kq,x15_1,rfl,HA,HJ1,⟨mc1,rfl⟩⟩:=hcut
  cases kq with
  | zero=>exact absurd HA.out (by simp[vx.j0])
  | succ kj1 =>
   have H:=HA.out;clear HA;simp only[vx.j0] at H
   by_cases c8:x15_1=true
   ·subst c8;have H1:(some false)=some r:=by rw[if_pos rfl] at H;exact H
    clear H;have H:=H1;clear H1;obtain rfl:=Option.some.inj H;go_wp2;go_ret
    exact⟨by first|rfl|(simp;done)|(simp[*];done),by repeat(first|exact Drawn0.refl _|apply Drawn0.step)⟩
   ·replace c8:=jq9.mpr c8;subst c8;have H1:(vx.l0 kj1 a0 (a0.size:Int) 0)=some r:=by rw[if_neg (show ¬ (false=true) by decide)] at H;exact H
    clear H;have H:=H1;clear H1;have H':=U.mk H;clear H;go_wp2
    go_loopg [18] kj1 (fun kq v18 w'=>∃ (x18_2:Int),v18=.int .i64 x18_2∧U (vx.l0 kq a0 (a0.size:Int) x18_2=some r)∧U (kq≤kj1)∧Drawn0 w w')
    case atStart=>exact⟨(0),(by first|rfl|(simp;done)|(simp[*];done)|(generalize ByteArray.toList _=l_;cases l_ <;> first|rfl|(simp;done))),H',⟨Nat.le_refl _⟩,by repeat(first|exact Drawn0.refl _|apply Drawn0.step)⟩
    case round =>
     clear H';try clear c1
     try clear p2 p2
     try clear c3
     try clear c3b0
     try clear c3b1
     try clear c4
     try clear c4b0
     try clear c4b1
     try clear c5
     try clear c5b0
     try clear c5b1
     try clear p6 p6
     try clear q6 q6
     try clear hx6
     try clear qi6
     try clear c8
     obtain⟨x18_2,rfl,HA,HK2,⟨m2,rfl⟩⟩:=hrel
     cases gk with
     | zero=>exact absurd HA.out (by simp[vx.l0])
     | succ k2 =>
      have H:=HA.out;clear HA;simp only[vx.l0] at H
      by_cases c9:x18_2 < (a0.size:Int)
      ·rw[if_pos c9] at H;have c9b0:decide (x18_2 < (a0.size:Int))=true:=decide_eq_true c9;clear c9
       by_cases c10 : 0≤x18_2
       ·rw[if_pos c10] at H;have c10b0:decide (0≤x18_2)=true:=decide_eq_true c10;clear c10
        by_cases c11:x18_2 < (a0.size:Int)
        ·rw[if_pos c11] at H;have c11b0:decide (x18_2 < (a0.size:Int))=true:=decide_eq_true c11;clear c11;replace H:=jq8.mp H;obtain⟨t102,A130,H⟩:=H;try dsimp only at H
         have A13:=U.mk A130;clear A130
         by_cases c14:t102=true
         ·subst c14;have H1:(vx.l0 k2 a0 (a0.size:Int) (wrap64 (x18_2 + 1)))=some r:=by rw[if_pos rfl] at H;exact H
          clear H;have H:=H1;clear H1;have H':=U.mk H;clear H;have p12 : 0≤(x18_2:Int):=of_decide_eq_true (by assumption);have q12:x18_2 < (a0.size:Int):=of_decide_eq_true (by assumption);have hx12:=bt_at a0 x18_2;replace p12:=eq_true p12;replace q12:=eq_true q12;go_wp2_with (first|((with_reducible refine zx (f:=42) rfl ?_);refine goesL_ (some 24) rfl rfl Tryz.func42 (by kernel_rfl) rfl #[.int .u8 (bt a0 x18_2)] rfl (by(try simp only[jq0,jq1,jq2]);first|done|rfl|(simp only[jq3,jq4];rfl)) ?_;(with_reducible refine(qqx.calls (bt a0 x18_2) true _ A13.out).mono ?_);rintro e w' ⟨rfl,⟨nd,rfl⟩⟩;refine⟨_,rfl,?_⟩))
          go_roundg k2
          case measure=>have:=HJ1.out;have:=HK2.out;omega
          case rel=>exact⟨(wrap64 (x18_2 + 1)),(by first|rfl|(simp;done)|(simp[*];done)|(generalize ByteArray.toList _=l_;cases l_ <;> first|rfl|(simp;done))),H',⟨by have:=HJ1.out;have:=HK2.out;omega⟩,by repeat(first|exact Drawn0.refl _|apply Drawn0.step)⟩
         ·replace c14:=jq9.mpr c14;subst c14;have H1:(some false)=some r:=by rw[if_neg (show ¬ (false=true) by decide)] at H;exact H
          clear H;have H:=H1;clear H1;obtain rfl:=Option.some.inj H;have p12 : 0≤(x18_2:Int):=of_decide_eq_true (by assumption);have q12:x18_2 < (a0.size:Int):=of_decide_eq_true (by assumption);have hx12:=bt_at a0 x18_2;replace p12:=eq_true p12;replace q12:=eq_true q12;go_wp2_with (first|((with_reducible refine zx (f:=42) rfl ?_);refine goesL_ (some 24) rfl rfl Tryz.func42 (by kernel_rfl) rfl #[.int .u8 (bt a0 x18_2)] rfl (by(try simp only[jq0,jq1,jq2]);first|done|rfl|(simp only[jq3,jq4];rfl)) ?_;(with_reducible refine(qqx.calls (bt a0 x18_2) false _ A13.out).mono ?_);rintro e w' ⟨rfl,⟨nd,rfl⟩⟩;refine⟨_,rfl,?_⟩))
          go_ret
          exact⟨by first|rfl|(simp;done)|(simp[*];done),by repeat(first|exact Drawn0.refl _|apply Drawn0.step)⟩
        ·rw[if_neg c11] at H;exact absurd H (by simp)
       ·rw[if_neg c10] at H;exact absurd H (by simp)
      ·rw[if_neg c9] at H;have c9b0:decide (x18_2 < (a0.size:Int))=false:=decide_eq_false c9;clear c9;obtain rfl:=Option.some.inj H;go_wp2;go_ret
       exact⟨by first|rfl|(simp;done)|(simp[*];done),by repeat(first|exact Drawn0.refl _|apply Drawn0.step)⟩
end Go.Proofs.YtkcdefnpbnbaeaaGreatDoor.Pr
namespace Go.Proofs.YtkcdefnpbnbaeaaGreatDoor.Pr
open Go.RowKit Go.Proofs.YtkcdefnpbnbaeaaGreatDoorW.PrintWords Go.Proofs.YtkcdefnpbnbaeaaGreatDoorW.PrintLast Go.Proofs.YtkcdefnpbnbaeaaGreatDoorW.PrintMore
attribute [local go_sem] max2_int min2_int max_two min_two max_three min_three max_four min_four
set_option linter.unusedVariables false
set_option linter.unusedSimpArgs false
mutual
def qqj.j0:Nat→ByteArray→Bool→Option (Bool)
 | 0,_,_=>none
 | k + 1,x0,x17=>if x17=true then(some false) else(qqj.l0 k x0 (x0.size:Int) 0)
def qqj.l0:Nat→ByteArray→Int→Int→Option (Bool)
 | 0,_,_,_=>none
 | k + 1,x0,x19,x20=>if x20 < x19 then(if 0≤x20 then(if x20 < (x0.size:Int) then(if (bt x0 x20) < 32 then(some false) else(if (bt x0 x20) > 126 then(some false) else(qqj.l0 k x0 x19 (wrap64 (x20 + 1))))) else(none)) else(none)) else(some true)
end
def qqj.f (k:Nat) (a0:ByteArray) (a1:Int) (a2:Int):Option (Bool):=if (a0.size:Int) < a1 then(qqj.j0 k a0 true) else(qqj.j0 k a0 (decide ((a0.size:Int) > a2)))
theorem qqj.mono_l:∀ k,(∀ y0 y1,LeO (qqj.j0 k y0 y1) (qqj.j0 (k + 1) y0 y1))∧(∀ y0 y1 y2,LeO (qqj.l0 k y0 y1 y2) (qqj.l0 (k + 1) y0 y1 y2))
 | 0=>⟨fun _ _ r h=>by simp[qqj.j0] at h,fun _ _ _ r h=>by simp[qqj.l0] at h⟩
 | k + 1=>by
  obtain⟨ih0,ih1⟩:=qqj.mono_l k;refine⟨?_,?_⟩
  ·intro y0 y1
   unfold qqj.j0
   repeat' first
   | (with_reducible exact ih0 _ _)
   | (with_reducible exact ih1 _ _ _)
   | (with_reducible exact LeO.refl _)
   | (with_reducible exact LeO.none _)
   | (with_reducible refine LeO.ite ?_ ?_)
   | (with_reducible refine LeO.bind ?_ (fun _=>?_))
   | exact ih0 _ _
   | exact ih1 _ _ _
   | exact LeO.none _
   | refine LeO.ite ?_ ?_
   | refine LeO.bind ?_ (fun _=>?_)
  ·intro y0 y1 y2
   unfold qqj.l0
   repeat' first
   | (with_reducible exact ih0 _ _)
   | (with_reducible exact ih1 _ _ _)
   | (with_reducible exact LeO.refl _)
   | (with_reducible exact LeO.none _)
   | (with_reducible refine LeO.ite ?_ ?_)
   | (with_reducible refine LeO.bind ?_ (fun _=>?_))
   | exact ih0 _ _
   | exact ih1 _ _ _
   | exact LeO.none _
   | refine LeO.ite ?_ ?_
   | refine LeO.bind ?_ (fun _=>?_)
theorem qqj.mono:∀ a0 a1 a2 k,LeO (qqj.f k a0 a1 a2) (qqj.f (k + 1) a0 a1 a2):=by
 intro a0 a1 a2 k
 obtain⟨ih0,ih1⟩:=qqj.mono_l k;unfold qqj.f
 repeat' first
   | (with_reducible exact ih0 _ _)
   | (with_reducible exact ih1 _ _ _)
   | (with_reducible exact LeO.refl _)
   | (with_reducible exact LeO.none _)
   | (with_reducible refine LeO.ite ?_ ?_)
   | (with_reducible refine LeO.bind ?_ (fun _=>?_))
   | exact ih0 _ _
   | exact ih1 _ _ _
   | exact LeO.none _
   | refine LeO.ite ?_ ?_
   | refine LeO.bind ?_ (fun _=>?_)
theorem qqj.calls (k:Nat) (a0:ByteArray) (a1:Int) (a2:Int) (r:Bool) (w:World) (h:qqj.f k a0 a1 a2=some r) :
  Calls Tryz.prog 83 #[.string a0,.int .i64 a1,.int .i64 a2] w fun e w'=>e=.returned (.bool r)∧Drawn0 w w':=by
 unfold qqj.f at h;have H:=h;clear h;have HC4:=U.mk H;clear H;go_enter Tryz.func83,Tryz.ntmps83;go_upto_region 1 with (fail)
 go_cut [17] (fun v17 wc=>∃ (kq:Nat) (x17_3:Bool),v17=.bool x17_3∧U (qqj.j0 kq a0 x17_3=some r)∧U (kq≤k)∧Drawn0 w wc)
 case first =>
  have H:=HC4.out;clear HC4
  by_cases c5:(a0.size:Int) < a1
  ·rw[if_pos c5] at H;have c5b0:decide ((a0.size:Int) < a1)=true:=decide_eq_true c5;clear c5
   (first|rw[c5b0]|(simp only[i64_w,i32_w];rw[c5b0])|skip)
   have H':=U.mk H;clear H;go_wp2;go_meet
   case rel=>exact⟨_,(true),(by first|rfl|(simp;done)|(simp[*];done)),H',⟨by first|omega|exact Nat.le_refl _⟩,by repeat(first|exact Drawn0.refl _|apply Drawn0.step)⟩
  ·rw[if_neg c5] at H;have c5b0:decide ((a0.size:Int) < a1)=false:=decide_eq_false c5;clear c5
   (first|rw[c5b0]|(simp only[i64_w,i32_w];rw[c5b0])|skip)
   have H':=U.mk H;clear H;go_wp2;go_meet
   case rel=>exact⟨_,(decide ((a0.size:Int) > a2)),(by first|rfl|(simp;done)|(simp[*];done)),H',⟨by first|omega|exact Nat.le_refl _⟩,by repeat(first|exact Drawn0.refl _|apply Drawn0.step)⟩
 case rest =>
  clear HC4;try clear p2
  try clear c5
  try clear c5b0
  obtain⟨kq,x17_3,rfl,HA,HJ3,⟨mc3,rfl⟩⟩:=hcut
  cases kq with
  | zero=>exact absurd HA.out (by simp[qqj.j0])
  | succ kj3 =>
   have H:=HA.out;clear HA;simp only[qqj.j0] at H
   by_cases c6:x17_3=true
   ·subst c6;have H1:(some false)=some r:=by rw[if_pos rfl] at H;exact H
    clear H;have H:=H1;clear H1;obtain rfl:=Option.some.inj H;go_wp2;go_ret
    exact⟨by first|rfl|(simp;done)|(simp[*];done),by repeat(first|exact Drawn0.refl _|apply Drawn0.step)⟩
   ·replace c6:=jq9.mpr c6;subst c6;have H1:(qqj.l0 kj3 a0 (a0.size:Int) 0)=some r:=by rw[if_neg (show ¬ (false=true) by decide)] at H;exact H
    clear H;have H:=H1;clear H1;have H':=U.mk H;clear H;go_wp2
    go_loopg [20] kj3 (fun kq v20 w'=>∃ (x20_2:Int),v20=.int .i64 x20_2∧U (qqj.l0 kq a0 (a0.size:Int) x20_2=some r)∧U (kq≤kj3)∧Drawn0 w w')
    case atStart=>exact⟨(0),(by first|rfl|(simp;done)|(simp[*];done)),H',⟨Nat.le_refl _⟩,by repeat(first|exact Drawn0.refl _|apply Drawn0.step)⟩
    case round =>
     clear H';try clear p2 p2
     try clear c3
     try clear c5
     try clear c5b0
     try clear c6
     obtain⟨x20_2,rfl,HA,HK2,⟨m2,rfl⟩⟩:=hrel
     cases gk with
     | zero=>exact absurd HA.out (by simp[qqj.l0])
     | succ k2 =>
      have H:=HA.out;clear HA;simp only[qqj.l0] at H
      by_cases c7:x20_2 < (a0.size:Int)
      ·rw[if_pos c7] at H;have c7b0:decide (x20_2 < (a0.size:Int))=true:=decide_eq_true c7;clear c7
       by_cases c8 : 0≤x20_2
       ·rw[if_pos c8] at H;have c8b0:decide (0≤x20_2)=true:=decide_eq_true c8;clear c8
        by_cases c9:x20_2 < (a0.size:Int)
        ·rw[if_pos c9] at H;have c9b0:decide (x20_2 < (a0.size:Int))=true:=decide_eq_true c9;clear c9
         by_cases c11:(bt a0 x20_2) < 32
         ·rw[if_pos c11] at H;have c11b0:decide ((bt a0 x20_2) < 32)=true:=decide_eq_true c11;clear c11;obtain rfl:=Option.some.inj H;have p10 : 0≤(x20_2:Int):=of_decide_eq_true (by assumption);have q10:x20_2 < (a0.size:Int):=of_decide_eq_true (by assumption);have hx10:=bt_at a0 x20_2;replace p10:=eq_true p10;replace q10:=eq_true q10;go_wp2;go_ret
          exact⟨by first|rfl|(simp;done)|(simp[*];done),by repeat(first|exact Drawn0.refl _|apply Drawn0.step)⟩
         ·rw[if_neg c11] at H;have c11b0:decide ((bt a0 x20_2) < 32)=false:=decide_eq_false c11;clear c11
          by_cases c13:(bt a0 x20_2) > 126
          ·rw[if_pos c13] at H;have c13b0:decide (126 < (bt a0 x20_2))=true:=decide_eq_true c13;clear c13;obtain rfl:=Option.some.inj H;have p10 : 0≤(x20_2:Int):=of_decide_eq_true (by assumption);have q10:x20_2 < (a0.size:Int):=of_decide_eq_true (by assumption);have hx10:=bt_at a0 x20_2;replace p10:=eq_true p10;replace q10:=eq_true q10;have p12 : 0≤(x20_2:Int):=of_decide_eq_true (by assumption);have q12:x20_2 < (a0.size:Int):=of_decide_eq_true (by assumption);have hx12:=bt_at a0 x20_2;replace p12:=eq_true p12;replace q12:=eq_true q12;go_wp2;go_ret
           exact⟨by first|rfl|(simp;done)|(simp[*];done),by repeat(first|exact Drawn0.refl _|apply Drawn0.step)⟩
          ·rw[if_neg c13] at H;have c13b0:decide (126 < (bt a0 x20_2))=false:=decide_eq_false c13;clear c13;have H':=U.mk H;clear H;have p10 : 0≤(x20_2:Int):=of_decide_eq_true (by assumption);have q10:x20_2 < (a0.size:Int):=of_decide_eq_true (by assumption);have hx10:=bt_at a0 x20_2;replace p10:=eq_true p10;replace q10:=eq_true q10;have p12 : 0≤(x20_2:Int):=of_decide_eq_true (by assumption);have q12:x20_2 < (a0.size:Int):=of_decide_eq_true (by assumption);have hx12:=bt_at a0 x20_2;replace p12:=eq_true p12;replace q12:=eq_true q12;go_wp2;go_roundg k2
           case measure=>have:=HJ3.out;have:=HK2.out;omega
           case rel=>exact⟨(wrap64 (x20_2 + 1)),(by first|rfl|(simp;done)|(simp[*];done)),H',⟨by have:=HJ3.out;have:=HK2.out;omega⟩,by repeat(first|exact Drawn0.refl _|apply Drawn0.step)⟩
        ·rw[if_neg c9] at H;exact absurd H (by simp)
       ·rw[if_neg c8] at H;exact absurd H (by simp)
      ·rw[if_neg c7] at H;have c7b0:decide (x20_2 < (a0.size:Int))=false:=decide_eq_false c7;clear c7;obtain rfl:=Option.some.inj H;go_wp2;go_ret
       exact⟨by first|rfl|(simp;done)|(simp[*];done),by repeat(first|exact Drawn0.refl _|apply Drawn0.step)⟩
end Go.Proofs.YtkcdefnpbnbaeaaGreatDoor.Pr
namespace Go.Proofs.YtkcdefnpbnbaeaaGreatDoor.Pr
open Go.RowKit Go.Proofs.YtkcdefnpbnbaeaaGreatDoorW.PrintWords Go.Proofs.YtkcdefnpbnbaeaaGreatDoorW.PrintLast Go.Proofs.YtkcdefnpbnbaeaaGreatDoorW.PrintMore
attribute [local go_sem] max2_int min2_int max_two min_two max_three min_three max_four min_four
set_option linter.unusedVariables false
set_option linter.unusedSimpArgs false
mutual
def vw.j0:Nat→Bool→Int→Int→ByteArray→ByteArray→Option (Bool)
 | 0,_,_,_,_,_=>none
 | k + 1,x3,x102000,x102001,x102002,x102003=>if x102000=1 then(if x3=true then(if x102001=0 then(some true) else(some (x102001 == 1))) else(some false)) else(if x102000=2 then(vw.j1 k x3 x102000 (x102000 == 2) x102000 x102001 x102002 x102003) else(vw.j1 k x3 x102000 (x102000 == 5) x102000 x102001 x102002 x102003))
def vw.j1:Nat→Bool→Int→Bool→Int→Int→ByteArray→ByteArray→Option (Bool)
 | 0,_,_,_,_,_,_,_=>none
 | k + 1,x3,x15,x29,x102000,x102001,x102002,x102003=>if x29=true then(some x3) else(if x15=3 then(if x102001=0 then(if x102003.toList=([]:List UInt8) then((qqj.f k x102002 0 200).bind fun t102=>(some t102)) else(some false)) else(some false)) else(if x15=4 then(if x102001=0 then((vx.f k x102003).bind fun t103=>(if t103=true then((qqj.f k x102002 1 200).bind fun t104=>(some t104)) else(some false))) else(some false)) else(if x15=6 then(if x3=true then(if x102001 < 0 then(some false) else(if (Int.tmod x102001 64)≤32 then(if (wrap64 (Int.tdiv x102001 64)) < 4294967296 then(if 0≤(wrap64 (32 - (Int.tmod x102001 64))) then(if (shl .i64 1 (wrap64 (32 - (Int.tmod x102001 64))))=0 then(none) else(some ((Int.tmod (wrap64 (Int.tdiv x102001 64)) (shl .i64 1 (wrap64 (32 - (Int.tmod x102001 64))))) == 0))) else(none)) else(some false)) else(some false))) else(some false)) else(if x15=7 then(if x3=true then(if x102001 ≥ (-100000000000) then(some (decide (x102001≤100000000000))) else(some false)) else(some false)) else(some false)))))
end
def vw.f (k:Nat) (a0_0:Int) (a0_1:Int) (a0_2:ByteArray) (a0_3:ByteArray):Option (Bool):=if a0_2.toList=([]:List UInt8) then(vw.j0 k (a0_3.toList == ([]:List UInt8)) a0_0 a0_1 a0_2 a0_3) else(vw.j0 k false a0_0 a0_1 a0_2 a0_3)
theorem vw.mono_l:∀ k,(∀ y0 y1 y2 y3 y4,LeO (vw.j0 k y0 y1 y2 y3 y4) (vw.j0 (k + 1) y0 y1 y2 y3 y4))∧(∀ y0 y1 y2 y3 y4 y5 y6,LeO (vw.j1 k y0 y1 y2 y3 y4 y5 y6) (vw.j1 (k + 1) y0 y1 y2 y3 y4 y5 y6))
 | 0=>⟨fun _ _ _ _ _ r h=>by simp[vw.j0] at h,fun _ _ _ _ _ _ _ r h=>by simp[vw.j1] at h⟩
 | k + 1=>by
  obtain⟨ih0,ih1⟩:=vw.mono_l k;refine⟨?_,?_⟩
  ·intro y0 y1 y2 y3 y4
   unfold vw.j0
   repeat' first
   | (with_reducible exact ih0 _ _ _ _ _)
   | (with_reducible exact ih1 _ _ _ _ _ _ _)
   | (with_reducible exact vx.mono _ _)
   | (with_reducible exact qqj.mono _ _ _ _)
   | (with_reducible exact LeO.refl _)
   | (with_reducible exact LeO.none _)
   | (with_reducible refine LeO.ite ?_ ?_)
   | (with_reducible refine LeO.bind ?_ (fun _=>?_))
   | exact ih0 _ _ _ _ _
   | exact ih1 _ _ _ _ _ _ _
   | exact vx.mono _ _
   | exact qqj.mono _ _ _ _
   | exact LeO.none _
   | refine LeO.ite ?_ ?_
   | refine LeO.bind ?_ (fun _=>?_)
  ·intro y0 y1 y2 y3 y4 y5 y6
   unfold vw.j1
   repeat' first
   | (with_reducible exact ih0 _ _ _ _ _)
   | (with_reducible exact ih1 _ _ _ _ _ _ _)
   | (with_reducible exact vx.mono _ _)
   | (with_reducible exact qqj.mono _ _ _ _)
   | (with_reducible exact LeO.refl _)
   | (with_reducible exact LeO.none _)
   | (with_reducible refine LeO.ite ?_ ?_)
   | (with_reducible refine LeO.bind ?_ (fun _=>?_))
   | exact ih0 _ _ _ _ _
   | exact ih1 _ _ _ _ _ _ _
   | exact vx.mono _ _
   | exact qqj.mono _ _ _ _
   | exact LeO.none _
   | refine LeO.ite ?_ ?_
   | refine LeO.bind ?_ (fun _=>?_)
theorem vw.mono:∀ a0 a1 a2 a3 k,LeO (vw.f k a0 a1 a2 a3) (vw.f (k + 1) a0 a1 a2 a3):=by
 intro a0 a1 a2 a3 k
 obtain⟨ih0,ih1⟩:=vw.mono_l k;unfold vw.f
 repeat' first
   | (with_reducible exact ih0 _ _ _ _ _)
   | (with_reducible exact ih1 _ _ _ _ _ _ _)
   | (with_reducible exact vx.mono _ _)
   | (with_reducible exact qqj.mono _ _ _ _)
   | (with_reducible exact LeO.refl _)
   | (with_reducible exact LeO.none _)
   | (with_reducible refine LeO.ite ?_ ?_)
   | (with_reducible refine LeO.bind ?_ (fun _=>?_))
   | exact ih0 _ _ _ _ _
   | exact ih1 _ _ _ _ _ _ _
   | exact vx.mono _ _
   | exact qqj.mono _ _ _ _
   | exact LeO.none _
   | refine LeO.ite ?_ ?_
   | refine LeO.bind ?_ (fun _=>?_)
theorem vw.calls (k:Nat) (a0_0:Int) (a0_1:Int) (a0_2:ByteArray) (a0_3:ByteArray) (r:Bool) (w:World) (h:vw.f k a0_0 a0_1 a0_2 a0_3=some r) :
  Calls Tryz.prog 64 #[.agg #[.int .i64 a0_0,.int .i64 a0_1,.string a0_2,.string a0_3]] w fun e w'=>e=.returned (.bool r)∧Below w.heap.size w w':=by
 have hu30:=Tryz.underlying30;have HB:=U.mk (Below.refl w.heap.size w);unfold vw.f at h;have H:=h;clear h;have HC2:=U.mk H;clear H;go_enter Tryz.func64,Tryz.ntmps64;go_upto_region 1 with (first|((with_reducible refine gate_dst (N:=1) rfl ?_);refine box_event ?hg (N:=1) ?hd (cs:=#[.int .i64 a0_0,.int .i64 a0_1,.string a0_2,.string a0_3]) (t:=30) ?hr ?_;(case hd=>rfl);(case hg=>rfl);(case hr=>first|(go_simp;done)|(go_simp;rfl));intro gb101 hg w3 hbox hb;have BK101:=U.mk (hbox);have GW101:=U.mk ((by rw[hg];exact(zq (by solve_by_elim only[HB.out,L,O,J])):w.heap.size≤gb101));have GE101:=GW101;replace HB:=U.mk (qx (by solve_by_elim only[HB.out,L,O,J]) hb);clear hb hbox hg))
 repeat(go_quiet (first|((with_reducible refine gate_dst (N:=1) rfl ?_);refine box_event ?hg (N:=1) ?hd (cs:=#[.int .i64 a0_0,.int .i64 a0_1,.string a0_2,.string a0_3]) (t:=30) ?hr ?_;(case hd=>rfl);(case hg=>rfl);(case hr=>first|(go_simp;done)|(go_simp;rfl));intro gb101 hg w3 hbox hb;have BK101:=U.mk (hbox);have GW101:=U.mk ((by rw[hg];exact(zq (by solve_by_elim only[HB.out,L,O,J])):w.heap.size≤gb101));have GE101:=GW101;replace HB:=U.mk (qx (by solve_by_elim only[HB.out,L,O,J]) hb);clear hb hbox hg));go_upto_region 1 with (first|((with_reducible refine gate_dst (N:=1) rfl ?_);refine box_event ?hg (N:=1) ?hd (cs:=#[.int .i64 a0_0,.int .i64 a0_1,.string a0_2,.string a0_3]) (t:=30) ?hr ?_;(case hd=>rfl);(case hg=>rfl);(case hr=>first|(go_simp;done)|(go_simp;rfl));intro gb101 hg w3 hbox hb;have n0_:=U.mk (qx (by solve_by_elim only[HB.out,L,O,J]) hb);have n1_:=U.mk (hbox);have n2_:=U.mk ((by rw[hg];exact(zq (by solve_by_elim only[HB.out,L,O,J])):w.heap.size≤gb101));have n3_:=U.mk ((by rw[hg];exact(zq (by solve_by_elim only[HB.out,L,O,J])):w.heap.size≤gb101));clear HB;have HB:=n0_;have BK101:=n1_;have GW101:=n2_;have GE101:=n3_;clear n0_ n1_ n2_ n3_;clear hb hbox hg)))
 (try simp only[Act.put,jq5,jq6,jq7])
 go_cut [3] (fun v3 wc=>∃ (kq:Nat) (x3_1:Bool),v3=.bool x3_1∧U (vw.j0 kq x3_1 a0_0 a0_1 a0_2 a0_3=some r)∧U (kq≤k)∧U (wc.heap[gb101]? = some (.cells #[.int .i64 a0_0,.int .i64 a0_1,.string a0_2,.string a0_3] 30 (0,0)))∧U (Below w.heap.size w wc))
 case first =>
  have H:=HC2.out;clear HC2
  by_cases c4:a0_2.toList=([]:List UInt8)
  ·rw[if_pos c4] at H;have c4b0:(a0_2.toList == ([]:List UInt8))=true:=beq_iff_eq.mpr c4;have c4b1:(a0_2.toList != ([]:List UInt8))=false:=bne_eq_false_iff_eq.mpr c4;clear c4
   (first|rw[c4b0]|(simp only[i64_w,i32_w];rw[c4b0])|skip)
   have H':=U.mk H;clear H;obtain⟨y5_0,y5_1,y5_2,y5_3,z5_0,z5_1,z5_2,z5_3⟩:=bx4f BK101.out;go_wp2
   repeat(go_quiet (fail);try go_wp2)
   go_meet
   case rel=>exact⟨_,((a0_3.toList == ([]:List UInt8))),(by first|rfl|(simp;done)|(simp[*];done)|(generalize ByteArray.toList _=l_;cases l_ <;> first|rfl|(simp;done))),H',⟨by first|omega|exact Nat.le_refl _⟩,⟨by(with_reducible repeat(first|refine qk ?_ _|refine qv ?_|refine qj ?_ _));exact BK101.out⟩,⟨by solve_by_elim (maxDepth:=20) only[HB.out,L,O,J,qz,GE101.out]⟩⟩
  ·rw[if_neg c4] at H;have c4b0:(a0_2.toList == ([]:List UInt8))=false:=beq_eq_false_iff_ne.mpr c4;have c4b1:(a0_2.toList != ([]:List UInt8))=true:=bne_iff_ne.mpr c4
   (first|rw[c4b0]|(simp only[i64_w,i32_w];rw[c4b0])|skip)
   have H':=U.mk H;clear H;obtain⟨y6_0,y6_1,y6_2,y6_3,z6_0,z6_1,z6_2,z6_3⟩:=bx4f BK101.out;go_wp2
   repeat(go_quiet (fail);try go_wp2)
   go_meet
   case rel=>exact⟨_,(false),(by first|rfl|(simp;done)|(simp[*];done)|(generalize ByteArray.toList _=l_;cases l_ <;> first|rfl|(simp;done))),H',⟨by first|omega|exact Nat.le_refl _⟩,⟨by(with_reducible repeat(first|refine qk ?_ _|refine qv ?_|refine qj ?_ _));exact BK101.out⟩,⟨by solve_by_elim (maxDepth:=20) only[HB.out,L,O,J,qz,GE101.out]⟩⟩
 case rest =>
  clear HC2;try clear p2
  try clear c4
  try clear c4b0
  try clear c4b1
  try clear c6
  try clear y5_0 y5_1 y5_2 y5_3 z5_0 z5_1 z5_2 z5_3
  try clear y6_0 y6_1 y6_2 y6_3 z6_0 z6_1 z6_2 z6_3
  obtain⟨kq,x3_1,rfl,HA,HJ1,BK101,HB⟩:=hcut
  cases kq with
  | zero=>exact absurd HA.out (by simp[vw.j0])
  | succ kj1 =>
   have H:=HA.out;clear HA;simp only[vw.j0] at H
   by_cases c7:a0_0=1
   ·rw[if_pos c7] at H;have c7b0:(a0_0 == 1)=true:=beq_iff_eq.mpr c7;have c7b1:(a0_0 != 1)=false:=bne_eq_false_iff_eq.mpr c7;clear c7
    by_cases c8:x3_1=true
    ·subst c8;have H1:(if a0_1=0 then(some true) else(some (a0_1 == 1)))=some r:=by rw[if_pos rfl] at H;exact H
     clear H;have H:=H1;clear H1
     by_cases c9:a0_1=0
     ·rw[if_pos c9] at H;have c9b0:(a0_1 == 0)=true:=beq_iff_eq.mpr c9;have c9b1:(a0_1 != 0)=false:=bne_eq_false_iff_eq.mpr c9;clear c9;obtain rfl:=Option.some.inj H;obtain⟨y10_0,y10_1,y10_2,y10_3,z10_0,z10_1,z10_2,z10_3⟩:=bx4f BK101.out;go_wp2
      repeat(go_quiet (fail);try go_wp2)
      go_ret
      exact⟨by first|rfl|(simp[*,zw,zv] <;> rfl),by solve_by_elim (maxDepth:=20) only[HB.out,L,O,J,qz,GE101.out]⟩
     ·rw[if_neg c9] at H;have c9b0:(a0_1 == 0)=false:=beq_eq_false_iff_ne.mpr c9;have c9b1:(a0_1 != 0)=true:=bne_iff_ne.mpr c9;obtain rfl:=Option.some.inj H;obtain⟨y11_0,y11_1,y11_2,y11_3,z11_0,z11_1,z11_2,z11_3⟩:=bx4f BK101.out;go_wp2
      repeat(go_quiet (fail);try go_wp2)
      go_ret
      exact⟨by first|rfl|(simp[*,zw,zv] <;> rfl),by solve_by_elim (maxDepth:=20) only[HB.out,L,O,J,qz,GE101.out]⟩
    ·replace c8:=jq9.mpr c8;subst c8;have H1:(some false)=some r:=by rw[if_neg (show ¬ (false=true) by decide)] at H;exact H
     clear H;have H:=H1;clear H1;obtain rfl:=Option.some.inj H;obtain⟨y12_0,y12_1,y12_2,y12_3,z12_0,z12_1,z12_2,z12_3⟩:=bx4f BK101.out;go_wp2
     repeat(go_quiet (fail);try go_wp2)
     go_ret
     exact⟨by first|rfl|(simp[*,zw,zv] <;> rfl),by solve_by_elim (maxDepth:=20) only[HB.out,L,O,J,qz,GE101.out]⟩
   ·rw[if_neg c7] at H;have c7b0:(a0_0 == 1)=false:=beq_eq_false_iff_ne.mpr c7;have c7b1:(a0_0 != 1)=true:=bne_iff_ne.mpr c7;have HC13:=U.mk H;clear H;obtain⟨y14_0,y14_1,y14_2,y14_3,z14_0,z14_1,z14_2,z14_3⟩:=bx4f BK101.out;go_upto_if 29 with (fail)
    repeat(go_quiet (fail);go_upto_if 29 with (fail))
    go_cut [29] (fun v29 wc=>∃ (kq:Nat) (x29_12:Bool),v29=.bool x29_12∧U (vw.j1 kq x3_1 a0_0 x29_12 a0_0 a0_1 a0_2 a0_3=some r)∧U (kq≤kj1)∧U (wc.heap[gb101]? = some (.cells #[.int .i64 a0_0,.int .i64 a0_1,.string a0_2,.string a0_3] 30 (0,0)))∧U (Below w.heap.size w wc))
    case first =>
     have H:=HC13.out;clear HC13
     by_cases c15:a0_0=2
     ·rw[if_pos c15] at H;have c15b0:(a0_0 == 2)=true:=beq_iff_eq.mpr c15;have c15b1:(a0_0 != 2)=false:=bne_eq_false_iff_eq.mpr c15;clear c15
      (first|rw[c15b0]|(simp only[i64_w,i32_w];rw[c15b0])|skip)
      have H':=U.mk H;clear H;go_wp2
      repeat(go_quiet (fail);try go_wp2)
      go_meet
      case rel=>exact⟨_,((a0_0 == 2)),(by first|rfl|(simp;done)|(simp[*];done)|(generalize ByteArray.toList _=l_;cases l_ <;> first|rfl|(simp;done))),H',⟨by have:=HJ1.out;first|omega|exact Nat.le_refl _⟩,⟨by(with_reducible repeat(first|refine qk ?_ _|refine qv ?_|refine qj ?_ _));exact BK101.out⟩,⟨by solve_by_elim (maxDepth:=20) only[HB.out,L,O,J,qz,GE101.out]⟩⟩
     ·rw[if_neg c15] at H;have c15b0:(a0_0 == 2)=false:=beq_eq_false_iff_ne.mpr c15;have c15b1:(a0_0 != 2)=true:=bne_iff_ne.mpr c15
      (first|rw[c15b0]|(simp only[i64_w,i32_w];rw[c15b0])|skip)
      have H':=U.mk H;clear H;go_wp2
      repeat(go_quiet (fail);try go_wp2)
      go_meet
      case rel=>exact⟨_,((a0_0 == 5)),(by first|rfl|(simp;done)|(simp[*];done)|(generalize ByteArray.toList _=l_;cases l_ <;> first|rfl|(simp;done))),H',⟨by have:=HJ1.out;first|omega|exact Nat.le_refl _⟩,⟨by(with_reducible repeat(first|refine qk ?_ _|refine qv ?_|refine qj ?_ _));exact BK101.out⟩,⟨by solve_by_elim (maxDepth:=20) only[HB.out,L,O,J,qz,GE101.out]⟩⟩
    case rest =>
     clear HC13;try clear c1
     try clear p2 p2
     try clear c4
     try clear c4b0
     try clear c4b1
     try clear c6
     try clear c7
     try clear c7b0
     try clear c7b1
     try clear c8
     try clear c9
     try clear c9b0
     try clear c9b1
     try clear c15
     try clear c15b0
     try clear c15b1
     try clear y10_0 y10_1 y10_2 y10_3 z10_0 z10_1 z10_2 z10_3
     try clear y11_0 y11_1 y11_2 y11_3 z11_0 z11_1 z11_2 z11_3
     try clear y12_0 y12_1 y12_2 y12_3 z12_0 z12_1 z12_2 z12_3
     try clear y14_0 y14_1 y14_2 y14_3 z14_0 z14_1 z14_2 z14_3
     try clear y5_0 y5_1 y5_2 y5_3 z5_0 z5_1 z5_2 z5_3
     try clear y6_0 y6_1 y6_2 y6_3 z6_0 z6_1 z6_2 z6_3
     obtain⟨kq,x29_12,rfl,HA,HJ12,BK101,HB⟩:=hcut
     cases kq with
     | zero=>exact absurd HA.out (by simp[vw.j1])
     | succ kj12 =>
      have H:=HA.out;clear HA;simp only[vw.j1] at H
      by_cases c16:x29_12=true
      ·subst c16;have H1:(some x3_1)=some r:=by rw[if_pos rfl] at H;exact H
       clear H;have H:=H1;clear H1;obtain rfl:=Option.some.inj H;go_wp2
       repeat(go_quiet (fail);try go_wp2)
       go_ret
       exact⟨by first|rfl|(simp[*,zw,zv] <;> rfl),by solve_by_elim (maxDepth:=20) only[HB.out,L,O,J,qz,GE101.out]⟩
      ·replace c16:=jq9.mpr c16;subst c16;have H1:(if a0_0=3 then(if a0_1=0 then(if a0_3.toList=([]:List UInt8) then((qqj.f kj12 a0_2 0 200).bind fun t102=>(some t102)) else(some false)) else(some false)) else(if a0_0=4 then(if a0_1=0 then((vx.f kj12 a0_3).bind fun t103=>(if t103=true then((qqj.f kj12 a0_2 1 200).bind fun t104=>(some t104)) else(some false))) else(some false)) else(if a0_0=6 then(if x3_1=true then(if a0_1 < 0 then(some false) else(if (Int.tmod a0_1 64)≤32 then(if (wrap64 (Int.tdiv a0_1 64)) < 4294967296 then(if 0≤(wrap64 (32 - (Int.tmod a0_1 64))) then(if (shl .i64 1 (wrap64 (32 - (Int.tmod a0_1 64))))=0 then(none) else(some ((Int.tmod (wrap64 (Int.tdiv a0_1 64)) (shl .i64 1 (wrap64 (32 - (Int.tmod a0_1 64))))) == 0))) else(none)) else(some false)) else(some false))) else(some false)) else(if a0_0=7 then(if x3_1=true then(if a0_1 ≥ (-100000000000) then(some (decide (a0_1≤100000000000))) else(some false)) else(some false)) else(some false)))))=some r:=by rw[if_neg (show ¬ (false=true) by decide)] at H;exact H
       clear H;have H:=H1;clear H1
       by_cases c17:a0_0=3
       ·rw[if_pos c17] at H;have c17b0:(a0_0 == 3)=true:=beq_iff_eq.mpr c17;have c17b1:(a0_0 != 3)=false:=bne_eq_false_iff_eq.mpr c17;clear c17
        by_cases c18:a0_1=0
        ·rw[if_pos c18] at H;have c18b0:(a0_1 == 0)=true:=beq_iff_eq.mpr c18;have c18b1:(a0_1 != 0)=false:=bne_eq_false_iff_eq.mpr c18;clear c18
         by_cases c19:a0_3.toList=([]:List UInt8)
         ·rw[if_pos c19] at H;have c19b0:(a0_3.toList == ([]:List UInt8))=true:=beq_iff_eq.mpr c19;have c19b1:(a0_3.toList != ([]:List UInt8))=false:=bne_eq_false_iff_eq.mpr c19;clear c19;replace H:=jq8.mp H;obtain⟨t102,A200,H⟩:=H;replace H:(some t102)=some r:=H;have A20:=U.mk A200;clear A200;obtain rfl:=Option.some.inj H;obtain⟨y21_0,y21_1,y21_2,y21_3,z21_0,z21_1,z21_2,z21_3⟩:=bx4f BK101.out;go_wp2_with (first|(go_at_call 83;(with_reducible refine(qqj.calls kj12 a0_2 0 200 t102 _ A20.out).mono ?_);rintro e w' ⟨rfl,⟨nd,rfl⟩⟩;(try first|exact⟨rfl,_,World.drewN_drewN _ _ _⟩|exact⟨rfl,_,Eq.trans (World.drewN_drewN _ _ _) (congrArg (World.drewN _) (Nat.add_assoc _ _ _))⟩)))
          repeat(go_quiet (first|(go_at_call 83;(with_reducible refine(qqj.calls kj12 a0_2 0 200 t102 _ A20.out).mono ?_);rintro e w' ⟨rfl,⟨nd,rfl⟩⟩;(try first|exact⟨rfl,_,World.drewN_drewN _ _ _⟩|exact⟨rfl,_,Eq.trans (World.drewN_drewN _ _ _) (congrArg (World.drewN _) (Nat.add_assoc _ _ _))⟩)));try go_wp2_with (first|(go_at_call 83;(with_reducible refine(qqj.calls kj12 a0_2 0 200 t102 _ A20.out).mono ?_);rintro e w' ⟨rfl,⟨nd,rfl⟩⟩;(try first|exact⟨rfl,_,World.drewN_drewN _ _ _⟩|exact⟨rfl,_,Eq.trans (World.drewN_drewN _ _ _) (congrArg (World.drewN _) (Nat.add_assoc _ _ _))⟩))))
          go_ret
          exact⟨by first|rfl|(simp[*,zw,zv] <;> rfl),by solve_by_elim (maxDepth:=20) only[HB.out,L,O,J,qz,GE101.out]⟩
         ·rw[if_neg c19] at H;have c19b0:(a0_3.toList == ([]:List UInt8))=false:=beq_eq_false_iff_ne.mpr c19;have c19b1:(a0_3.toList != ([]:List UInt8))=true:=bne_iff_ne.mpr c19;obtain rfl:=Option.some.inj H;obtain⟨y22_0,y22_1,y22_2,y22_3,z22_0,z22_1,z22_2,z22_3⟩:=bx4f BK101.out;go_wp2
          repeat(go_quiet (fail);try go_wp2)
          go_ret
          exact⟨by first|rfl|(simp[*,zw,zv] <;> rfl),by solve_by_elim (maxDepth:=20) only[HB.out,L,O,J,qz,GE101.out]⟩
        ·rw[if_neg c18] at H;have c18b0:(a0_1 == 0)=false:=beq_eq_false_iff_ne.mpr c18;have c18b1:(a0_1 != 0)=true:=bne_iff_ne.mpr c18;obtain rfl:=Option.some.inj H;obtain⟨y23_0,y23_1,y23_2,y23_3,z23_0,z23_1,z23_2,z23_3⟩:=bx4f BK101.out;go_wp2
         repeat(go_quiet (fail);try go_wp2)
         go_ret
         exact⟨by first|rfl|(simp[*,zw,zv] <;> rfl),by solve_by_elim (maxDepth:=20) only[HB.out,L,O,J,qz,GE101.out]⟩
       ·rw[if_neg c17] at H;have c17b0:(a0_0 == 3)=false:=beq_eq_false_iff_ne.mpr c17;have c17b1:(a0_0 != 3)=true:=bne_iff_ne.mpr c17
        by_cases c24:a0_0=4
        ·rw[if_pos c24] at H;have c24b0:(a0_0 == 4)=true:=beq_iff_eq.mpr c24;have c24b1:(a0_0 != 4)=false:=bne_eq_false_iff_eq.mpr c24;clear c24
         by_cases c25:a0_1=0
         ·rw[if_pos c25] at H;have c25b0:(a0_1 == 0)=true:=beq_iff_eq.mpr c25;have c25b1:(a0_1 != 0)=false:=bne_eq_false_iff_eq.mpr c25;clear c25;replace H:=jq8.mp H;obtain⟨t103,A260,H⟩:=H;try dsimp only at H
          have A26:=U.mk A260;clear A260
          by_cases c27:t103=true
          ·subst c27;have H1:((qqj.f kj12 a0_2 1 200).bind fun t104=>(some t104))=some r:=by rw[if_pos rfl] at H;exact H
           clear H;have H:=H1;clear H1;replace H:=jq8.mp H;obtain⟨t104,A280,H⟩:=H;replace H:(some t104)=some r:=H;have A28:=U.mk A280;clear A280;obtain rfl:=Option.some.inj H;obtain⟨y29_0,y29_1,y29_2,y29_3,z29_0,z29_1,z29_2,z29_3⟩:=bx4f BK101.out;go_wp2_with (first|(go_at_call 84;(with_reducible refine(vx.calls kj12 a0_3 true _ A26.out).mono ?_);rintro e w' ⟨rfl,⟨nd,rfl⟩⟩;(try first|exact⟨rfl,_,World.drewN_drewN _ _ _⟩|exact⟨rfl,_,Eq.trans (World.drewN_drewN _ _ _) (congrArg (World.drewN _) (Nat.add_assoc _ _ _))⟩))|(go_at_call 83;(with_reducible refine(qqj.calls kj12 a0_2 1 200 t104 _ A28.out).mono ?_);rintro e w' ⟨rfl,⟨nd,rfl⟩⟩;(try first|exact⟨rfl,_,World.drewN_drewN _ _ _⟩|exact⟨rfl,_,Eq.trans (World.drewN_drewN _ _ _) (congrArg (World.drewN _) (Nat.add_assoc _ _ _))⟩)))
           repeat(go_quiet (first|(go_at_call 84;(with_reducible refine(vx.calls kj12 a0_3 true _ A26.out).mono ?_);rintro e w' ⟨rfl,⟨nd,rfl⟩⟩;(try first|exact⟨rfl,_,World.drewN_drewN _ _ _⟩|exact⟨rfl,_,Eq.trans (World.drewN_drewN _ _ _) (congrArg (World.drewN _) (Nat.add_assoc _ _ _))⟩))|(go_at_call 83;(with_reducible refine(qqj.calls kj12 a0_2 1 200 t104 _ A28.out).mono ?_);rintro e w' ⟨rfl,⟨nd,rfl⟩⟩;(try first|exact⟨rfl,_,World.drewN_drewN _ _ _⟩|exact⟨rfl,_,Eq.trans (World.drewN_drewN _ _ _) (congrArg (World.drewN _) (Nat.add_assoc _ _ _))⟩)));try go_wp2_with (first|(go_at_call 84;(with_reducible refine(vx.calls kj12 a0_3 true _ A26.out).mono ?_);rintro e w' ⟨rfl,⟨nd,rfl⟩⟩;(try first|exact⟨rfl,_,World.drewN_drewN _ _ _⟩|exact⟨rfl,_,Eq.trans (World.drewN_drewN _ _ _) (congrArg (World.drewN _) (Nat.add_assoc _ _ _))⟩))|(go_at_call 83;(with_reducible refine(qqj.calls kj12 a0_2 1 200 t104 _ A28.out).mono ?_);rintro e w' ⟨rfl,⟨nd,rfl⟩⟩;(try first|exact⟨rfl,_,World.drewN_drewN _ _ _⟩|exact⟨rfl,_,Eq.trans (World.drewN_drewN _ _ _) (congrArg (World.drewN _) (Nat.add_assoc _ _ _))⟩))))
           go_ret
           exact⟨by first|rfl|(simp[*,zw,zv] <;> rfl),by solve_by_elim (maxDepth:=20) only[HB.out,L,O,J,qz,GE101.out]⟩
          ·replace c27:=jq9.mpr c27;subst c27;have H1:(some false)=some r:=by rw[if_neg (show ¬ (false=true) by decide)] at H;exact H
           clear H;have H:=H1;clear H1;obtain rfl:=Option.some.inj H;obtain⟨y30_0,y30_1,y30_2,y30_3,z30_0,z30_1,z30_2,z30_3⟩:=bx4f BK101.out;go_wp2_with (first|(go_at_call 84;(with_reducible refine(vx.calls kj12 a0_3 false _ A26.out).mono ?_);rintro e w' ⟨rfl,⟨nd,rfl⟩⟩;(try first|exact⟨rfl,_,World.drewN_drewN _ _ _⟩|exact⟨rfl,_,Eq.trans (World.drewN_drewN _ _ _) (congrArg (World.drewN _) (Nat.add_assoc _ _ _))⟩)))
           repeat(go_quiet (first|(go_at_call 84;(with_reducible refine(vx.calls kj12 a0_3 false _ A26.out).mono ?_);rintro e w' ⟨rfl,⟨nd,rfl⟩⟩;(try first|exact⟨rfl,_,World.drewN_drewN _ _ _⟩|exact⟨rfl,_,Eq.trans (World.drewN_drewN _ _ _) (congrArg (World.drewN _) (Nat.add_assoc _ _ _))⟩)));try go_wp2_with (first|(go_at_call 84;(with_reducible refine(vx.calls kj12 a0_3 false _ A26.out).mono ?_);rintro e w' ⟨rfl,⟨nd,rfl⟩⟩;(try first|exact⟨rfl,_,World.drewN_drewN _ _ _⟩|exact⟨rfl,_,Eq.trans (World.drewN_drewN _ _ _) (congrArg (World.drewN _) (Nat.add_assoc _ _ _))⟩))))
           go_ret
           exact⟨by first|rfl|(simp[*,zw,zv] <;> rfl),by solve_by_elim (maxDepth:=20) only[HB.out,L,O,J,qz,GE101.out]⟩
         ·rw[if_neg c25] at H;have c25b0:(a0_1 == 0)=false:=beq_eq_false_iff_ne.mpr c25;have c25b1:(a0_1 != 0)=true:=bne_iff_ne.mpr c25;obtain rfl:=Option.some.inj H;obtain⟨y31_0,y31_1,y31_2,y31_3,z31_0,z31_1,z31_2,z31_3⟩:=bx4f BK101.out;go_wp2
          repeat(go_quiet (fail);try go_wp2)
          go_ret
          exact⟨by first|rfl|(simp[*,zw,zv] <;> rfl),by solve_by_elim (maxDepth:=20) only[HB.out,L,O,J,qz,GE101.out]⟩
        ·rw[if_neg c24] at H;have c24b0:(a0_0 == 4)=false:=beq_eq_false_iff_ne.mpr c24;have c24b1:(a0_0 != 4)=true:=bne_iff_ne.mpr c24
         by_cases c32:a0_0=6
         ·rw[if_pos c32] at H;have c32b0:(a0_0 == 6)=true:=beq_iff_eq.mpr c32;have c32b1:(a0_0 != 6)=false:=bne_eq_false_iff_eq.mpr c32;clear c32
          by_cases c33:x3_1=true
          ·subst c33;have H1:(if a0_1 < 0 then(some false) else(if (Int.tmod a0_1 64)≤32 then(if (wrap64 (Int.tdiv a0_1 64)) < 4294967296 then(if 0≤(wrap64 (32 - (Int.tmod a0_1 64))) then(if (shl .i64 1 (wrap64 (32 - (Int.tmod a0_1 64))))=0 then(none) else(some ((Int.tmod (wrap64 (Int.tdiv a0_1 64)) (shl .i64 1 (wrap64 (32 - (Int.tmod a0_1 64))))) == 0))) else(none)) else(some false)) else(some false)))=some r:=by rw[if_pos rfl] at H;exact H
           clear H;have H:=H1;clear H1
           by_cases c34:a0_1 < 0
           ·rw[if_pos c34] at H;have c34b0:decide (a0_1 < 0)=true:=decide_eq_true c34;clear c34;obtain rfl:=Option.some.inj H;obtain⟨y35_0,y35_1,y35_2,y35_3,z35_0,z35_1,z35_2,z35_3⟩:=bx4f BK101.out;go_wp2
            repeat(go_quiet (fail);try go_wp2)
            go_ret
            exact⟨by first|rfl|(simp[*,zw,zv] <;> rfl),by solve_by_elim (maxDepth:=20) only[HB.out,L,O,J,qz,GE101.out]⟩
           ·rw[if_neg c34] at H;have c34b0:decide (a0_1 < 0)=false:=decide_eq_false c34;clear c34
            by_cases c36:(Int.tmod a0_1 64)≤32
            ·rw[if_pos c36] at H;have c36b0:decide ((Int.tmod a0_1 64)≤32)=true:=decide_eq_true c36;clear c36
             by_cases c37:(wrap64 (Int.tdiv a0_1 64)) < 4294967296
             ·rw[if_pos c37] at H;have c37b0:decide ((wrap64 (Int.tdiv a0_1 64)) < 4294967296)=true:=decide_eq_true c37;clear c37;obtain⟨ji38,hji38⟩ : ∃ j_:Int,(wrap64 (32 - (Int.tmod a0_1 64)))=j_:=⟨_,rfl⟩;replace H:(if 0≤(ji38) then(if (shl .i64 1 (ji38))=0 then(none) else(some ((Int.tmod (wrap64 (Int.tdiv a0_1 64)) (shl .i64 1 (ji38))) == 0))) else(none))=some r:=by first|(rw[hji38] at H;exact H)|(simp only[hji38] at H ⊢;exact H)
              have hji38w:(IntKind.i64.wrap (32 - (Int.tmod a0_1 64)))=ji38:=(i64_w _).trans hji38
              by_cases c39 : 0≤(ji38)
              ·rw[if_pos c39] at H;have c39b0:=eq_true c39;have c39b1:decide (0≤(ji38))=true:=decide_eq_true c39;clear c39;obtain⟨ji40,hji40⟩ : ∃ j_:Int,(shl .i64 1 (ji38))=j_:=⟨_,rfl⟩;replace H:(if (ji40)=0 then(none) else(some ((Int.tmod (wrap64 (Int.tdiv a0_1 64)) (ji40)) == 0)))=some r:=by first|(rw[hji40] at H;exact H)|(simp only[hji40] at H ⊢;exact H)
               have hji40_:(IntKind.i64.wrap (1 * 2 ^ min (ji38).toNat 64))=ji40:=hji40;have hji40z:(ji38)≤64→(IntKind.i64.wrap (1 * 2 ^ (ji38).toNat))=ji40:=shl_small hji40;have hji40u:(IntKind.i64.wrap (2 ^ min (ji38).toNat 64))=ji40:=by have h_:=hji40_;rw[Int.one_mul] at h_;exact h_
               have hji40v:(ji38)≤64→(IntKind.i64.wrap (2 ^ (ji38).toNat))=ji40:=fun hle_=>by have h_:=hji40z hle_;rw[Int.one_mul] at h_;exact h_
               have hji40y:(wrap64 (1 * 2 ^ min (ji38).toNat 64))=ji40:=(i64_w _).symm.trans hji40_;have hji40x:(ji38)≤64→(wrap64 (1 * 2 ^ (ji38).toNat))=ji40:=fun h_=>(i64_w _).symm.trans (hji40z h_)
               by_cases c41:(ji40)=0
               ·rw[if_pos c41] at H;exact absurd H (by simp)
               ·rw[if_neg c41] at H;have c41b0:((ji40) == 0)=false:=beq_eq_false_iff_ne.mpr c41;have c41b1:((ji40) != 0)=true:=bne_iff_ne.mpr c41;obtain rfl:=Option.some.inj H;obtain⟨y42_0,y42_1,y42_2,y42_3,z42_0,z42_1,z42_2,z42_3⟩:=bx4f BK101.out;go_wp2
                repeat(go_quiet (fail);try go_wp2)
                go_ret
                exact⟨by first|rfl|(simp[zw,zv] <;> rfl)|(simp only[← hji38,← hji40];first|rfl|(simp[zw,zv] <;> rfl))|(simp[*,zw,zv] <;> rfl),by solve_by_elim (maxDepth:=20) only[HB.out,L,O,J,qz,GE101.out]⟩
              ·rw[if_neg c39] at H;exact absurd H (by simp)
             ·rw[if_neg c37] at H;have c37b0:decide ((wrap64 (Int.tdiv a0_1 64)) < 4294967296)=false:=decide_eq_false c37;clear c37;obtain rfl:=Option.some.inj H;obtain⟨y43_0,y43_1,y43_2,y43_3,z43_0,z43_1,z43_2,z43_3⟩:=bx4f BK101.out;go_wp2
              repeat(go_quiet (fail);try go_wp2)
              go_ret
              exact⟨by first|rfl|(simp[*,zw,zv] <;> rfl),by solve_by_elim (maxDepth:=20) only[HB.out,L,O,J,qz,GE101.out]⟩
            ·rw[if_neg c36] at H;have c36b0:decide ((Int.tmod a0_1 64)≤32)=false:=decide_eq_false c36;clear c36;obtain rfl:=Option.some.inj H;obtain⟨y44_0,y44_1,y44_2,y44_3,z44_0,z44_1,z44_2,z44_3⟩:=bx4f BK101.out;go_wp2
             repeat(go_quiet (fail);try go_wp2)
             go_ret
             exact⟨by first|rfl|(simp[*,zw,zv] <;> rfl),by solve_by_elim (maxDepth:=20) only[HB.out,L,O,J,qz,GE101.out]⟩
          ·replace c33:=jq9.mpr c33;subst c33;have H1:(some false)=some r:=by rw[if_neg (show ¬ (false=true) by decide)] at H;exact H
           clear H;have H:=H1;clear H1;obtain rfl:=Option.some.inj H;go_wp2
           repeat(go_quiet (fail);try go_wp2)
           go_ret
           exact⟨by first|rfl|(simp[*,zw,zv] <;> rfl),by solve_by_elim (maxDepth:=20) only[HB.out,L,O,J,qz,GE101.out]⟩
         ·rw[if_neg c32] at H;have c32b0:(a0_0 == 6)=false:=beq_eq_false_iff_ne.mpr c32;have c32b1:(a0_0 != 6)=true:=bne_iff_ne.mpr c32
          by_cases c45:a0_0=7
          ·rw[if_pos c45] at H;have c45b0:(a0_0 == 7)=true:=beq_iff_eq.mpr c45;have c45b1:(a0_0 != 7)=false:=bne_eq_false_iff_eq.mpr c45;clear c45
           by_cases c46:x3_1=true
           ·subst c46;have H1:(if a0_1 ≥ (-100000000000) then(some (decide (a0_1≤100000000000))) else(some false))=some r:=by rw[if_pos rfl] at H;exact H
            clear H;have H:=H1;clear H1
            by_cases c47:a0_1 ≥ (-100000000000)
            ·rw[if_pos c47] at H;have c47b0:decide ((-100000000000)≤a0_1)=true:=decide_eq_true c47;clear c47;obtain rfl:=Option.some.inj H;obtain⟨y48_0,y48_1,y48_2,y48_3,z48_0,z48_1,z48_2,z48_3⟩:=bx4f BK101.out;go_wp2
             repeat(go_quiet (fail);try go_wp2)
             go_ret
             exact⟨by first|rfl|(simp[*,zw,zv] <;> rfl),by solve_by_elim (maxDepth:=20) only[HB.out,L,O,J,qz,GE101.out]⟩
            ·rw[if_neg c47] at H;have c47b0:decide ((-100000000000)≤a0_1)=false:=decide_eq_false c47;clear c47;obtain rfl:=Option.some.inj H;obtain⟨y49_0,y49_1,y49_2,y49_3,z49_0,z49_1,z49_2,z49_3⟩:=bx4f BK101.out;go_wp2
             repeat(go_quiet (fail);try go_wp2)
             go_ret
             exact⟨by first|rfl|(simp[*,zw,zv] <;> rfl),by solve_by_elim (maxDepth:=20) only[HB.out,L,O,J,qz,GE101.out]⟩
           ·replace c46:=jq9.mpr c46;subst c46;have H1:(some false)=some r:=by rw[if_neg (show ¬ (false=true) by decide)] at H;exact H
            clear H;have H:=H1;clear H1;obtain rfl:=Option.some.inj H;go_wp2
            repeat(go_quiet (fail);try go_wp2)
            go_ret
            exact⟨by first|rfl|(simp[*,zw,zv] <;> rfl),by solve_by_elim (maxDepth:=20) only[HB.out,L,O,J,qz,GE101.out]⟩
          ·rw[if_neg c45] at H;have c45b0:(a0_0 == 7)=false:=beq_eq_false_iff_ne.mpr c45;have c45b1:(a0_0 != 7)=true:=bne_iff_ne.mpr c45;obtain rfl:=Option.some.inj H;go_wp2
           repeat(go_quiet (fail);try go_wp2)
           go_ret
           exact⟨by first|rfl|(simp[*,zw,zv] <;> rfl),by solve_by_elim (maxDepth:=20) only[HB.out,L,O,J,qz,GE101.out]⟩
end Go.Proofs.YtkcdefnpbnbaeaaGreatDoor.Pr
namespace Go.Proofs.YtkcdefnpbnbaeaaGreatDoor.Pr
open Go.RowKit Go.Proofs.YtkcdefnpbnbaeaaGreatDoorW.PrintWords Go.Proofs.YtkcdefnpbnbaeaaGreatDoorW.PrintLast Go.Proofs.YtkcdefnpbnbaeaaGreatDoorW.PrintMore
attribute [local go_sem] max2_int min2_int max_two min_two max_three min_three max_four min_four
set_option linter.unusedVariables false
set_option linter.unusedSimpArgs false
def wz.f (k:Nat) (a0_0:Int) (a0_1:Int) (a0_2:ByteArray) (a0_3:ByteArray):Option (Bool):=(vw.f k a0_0 a0_1 a0_2 a0_3).bind fun t102=>(some (!t102))
theorem wz.mono:∀ a0 a1 a2 a3 k,LeO (wz.f k a0 a1 a2 a3) (wz.f (k + 1) a0 a1 a2 a3):=by
 intro a0 a1 a2 a3 k
 unfold wz.f
 repeat' first
   | (with_reducible exact vw.mono _ _ _ _ _)
   | (with_reducible exact LeO.refl _)
   | (with_reducible exact LeO.none _)
   | (with_reducible refine LeO.ite ?_ ?_)
   | (with_reducible refine LeO.bind ?_ (fun _=>?_))
   | exact vw.mono _ _ _ _ _
   | exact LeO.none _
   | refine LeO.ite ?_ ?_
   | refine LeO.bind ?_ (fun _=>?_)
theorem wz.calls (k:Nat) (a0_0:Int) (a0_1:Int) (a0_2:ByteArray) (a0_3:ByteArray) (r:Bool) (w:World) (h:wz.f k a0_0 a0_1 a0_2 a0_3=some r) :
  Calls Tryz.prog 70 #[.agg #[.int .i64 a0_0,.int .i64 a0_1,.string a0_2,.string a0_3]] w fun e w'=>e=.returned (.bool r)∧Below w.heap.size w w':=by
 have hu30:=Tryz.underlying30;have HB:=U.mk (Below.refl w.heap.size w);have H:((vw.f k a0_0 a0_1 a0_2 a0_3).bind fun t102=>(some (!t102)))=some r:=h;clear h;replace H:=jq8.mp H;obtain⟨t102,A20,H⟩:=H;replace H:(some (!t102))=some r:=H;have A2:=U.mk A20;clear A20;obtain rfl:=Option.some.inj H;go_enter Tryz.func70,Tryz.ntmps70;go_wp2_with (first|((with_reducible refine gate_dst (N:=1) rfl ?_);refine box_event ?hg (N:=1) ?hd (cs:=#[.int .i64 a0_0,.int .i64 a0_1,.string a0_2,.string a0_3]) (t:=30) ?hr ?_;(case hd=>rfl);(case hg=>rfl);(case hr=>first|(go_simp;done)|(go_simp;rfl));intro gb101 hg w3 hbox hb;have BK101:=U.mk (hbox);have GW101:=U.mk ((by rw[hg];exact(zq (by solve_by_elim only[HB.out,L,O,J])):w.heap.size≤gb101));have GE101:=GW101;replace HB:=U.mk (qx (by solve_by_elim only[HB.out,L,O,J]) hb);clear hb hbox hg;obtain⟨y4_0,y4_1,y4_2,y4_3,z4_0,z4_1,z4_2,z4_3⟩:=bx4f BK101.out)|((with_reducible refine zx (f:=64) rfl ?_);refine goesL_ (some 4) rfl rfl Tryz.func64 (by kernel_rfl) rfl #[.agg #[.int .i64 a0_0,.int .i64 a0_1,.string a0_2,.string a0_3]] rfl (by(try simp only[jq0,jq1,jq2]);first|done|rfl|(simp only[jq3,jq4];rfl)) ?_;(with_reducible refine(vw.calls k a0_0 a0_1 a0_2 a0_3 t102 _ A2.out).mono ?_);rintro e w5 ⟨rfl,hb⟩;refine⟨_,rfl,?_⟩;replace BK101:=U.mk (jx (by solve_by_elim only[BK101.out,qk,qv,qj]) hb);replace HB:=U.mk (qx (by solve_by_elim (maxDepth:=20) only[HB.out,L,O,J,qz,GE101.out]) hb);(try clear hb)))
 go_ret
 exact⟨by first|rfl|(simp[*,zw,zv] <;> rfl),by solve_by_elim (maxDepth:=20) only[HB.out,L,O,J,qz,GE101.out]⟩
end Go.Proofs.YtkcdefnpbnbaeaaGreatDoor.Pr
namespace Go.Proofs.YtkcdefnpbnbaeaaGreatDoor.Pr
open Go.RowKit Go.Proofs.YtkcdefnpbnbaeaaGreatDoorW.PrintWords Go.Proofs.YtkcdefnpbnbaeaaGreatDoorW.PrintLast Go.Proofs.YtkcdefnpbnbaeaaGreatDoorW.PrintMore
attribute [local go_sem] max2_int min2_int max_two min_two max_three min_three max_four min_four
set_option linter.unusedVariables false
set_option linter.unusedSimpArgs false
def xq.f (k:Nat) (a0:ByteArray):Option (Bool):=(vx.f k a0).bind fun t101=>(some (!t101))
theorem xq.mono:∀ a0 k,LeO (xq.f k a0) (xq.f (k + 1) a0):=by
 intro a0 k
 unfold xq.f
 repeat' first
   | (with_reducible exact vx.mono _ _)
   | (with_reducible exact LeO.refl _)
   | (with_reducible exact LeO.none _)
   | (with_reducible refine LeO.ite ?_ ?_)
   | (with_reducible refine LeO.bind ?_ (fun _=>?_))
   | exact vx.mono _ _
   | exact LeO.none _
   | refine LeO.ite ?_ ?_
   | refine LeO.bind ?_ (fun _=>?_)
theorem xq.calls (k:Nat) (a0:ByteArray) (r:Bool) (w:World) (h:xq.f k a0=some r) :
  Calls Tryz.prog 87 #[.string a0] w fun e w'=>e=.returned (.bool r)∧Drawn0 w w':=by
 have H:((vx.f k a0).bind fun t101=>(some (!t101)))=some r:=h;clear h;replace H:=jq8.mp H;obtain⟨t101,A20,H⟩:=H;replace H:(some (!t101))=some r:=H;have A2:=U.mk A20;clear A20;obtain rfl:=Option.some.inj H;go_enter Tryz.func87,Tryz.ntmps87;go_wp2_with (first|((with_reducible refine zx (f:=84) rfl ?_);refine goesL_ (some 4) rfl rfl Tryz.func84 (by kernel_rfl) rfl #[.string a0] rfl (by(try simp only[jq0,jq1,jq2]);first|done|rfl|(simp only[jq3,jq4];rfl)) ?_;(with_reducible refine(vx.calls k a0 t101 _ A2.out).mono ?_);rintro e w' ⟨rfl,⟨nd,rfl⟩⟩;refine⟨_,rfl,?_⟩))
 go_ret
 exact⟨by first|rfl|(simp;done)|(simp[*];done),by repeat(first|exact Drawn0.refl _|apply Drawn0.step)⟩
end Go.Proofs.YtkcdefnpbnbaeaaGreatDoor.Pr
namespace Go.Proofs.YtkcdefnpbnbaeaaGreatDoor.Pr
open Go.RowKit Go.Proofs.YtkcdefnpbnbaeaaGreatDoorW.PrintWords Go.Proofs.YtkcdefnpbnbaeaaGreatDoorW.PrintLast Go.Proofs.YtkcdefnpbnbaeaaGreatDoorW.PrintMore
set_option linter.unusedVariables false
def has_impl_yallNames_1.f (k:Nat) (l:List ByteArray):Option Bool:=anyO (xq.f k) l
theorem has_impl_yallNames_1.mono (l:List ByteArray) (k:Nat):LeO (has_impl_yallNames_1.f k l) (has_impl_yallNames_1.f (k + 1) l):=anyO_mono (p:=xq.f k) (q:=xq.f (k + 1)) (fun x=>xq.mono x k) l
theorem has_impl_yallNames_1.calls (k:Nat) (A0:Option Addr) (c0:Nat) (l0:List ByteArray) (r:Bool) (w:World) (hr0:Kd.C Kd.string w A0 l0.length l0) (hc0:l0.length≤c0) (h:has_impl_yallNames_1.f k l0=some r) :
  Calls Tryz.prog 86 #[.slice A0 l0.length c0,.func (.func 87) #[] #[]] w fun e w'=>e=.returned (.bool r)∧Drawn0 w w' :=
 containsStr_calls 87 (xq.f k) (enters_of Tryz.func87 (by kernel_rfl) rfl) (fun x b W hb=>xq.calls k x b W hb) A0 c0 l0 r w hr0 h
def has_impl_GoodValue_1.f (k:Nat) (l:List S30):Option Bool:=anyO (fun x:S30=>wz.f k x.f0 x.f1 x.f2 x.f3) l
theorem has_impl_GoodValue_1.mono (l:List S30) (k:Nat):LeO (has_impl_GoodValue_1.f k l) (has_impl_GoodValue_1.f (k + 1) l):=anyO_mono (p:=fun x:S30=>wz.f k x.f0 x.f1 x.f2 x.f3) (q:=fun x:S30=>wz.f (k + 1) x.f0 x.f1 x.f2 x.f3) (fun x=>wz.mono x.f0 x.f1 x.f2 x.f3 k) l
theorem has_impl_GoodValue_1.calls (k:Nat) (A0:Option Addr) (c0:Nat) (l0:List S30) (r:Bool) (w:World) (hr0:Kd.C k30 w A0 l0.length l0) (hc0:l0.length≤c0) (h:has_impl_GoodValue_1.f k l0=some r) :
  Calls Tryz.prog 69 #[.slice A0 l0.length c0,.func (.func 70) #[] #[]] w fun e w'=>e=.returned (.bool r)∧Below w.heap.size w w' :=
 containsT30_calls 70 (fun x:S30=>wz.f k x.f0 x.f1 x.f2 x.f3) (enters_of Tryz.func70 (by kernel_rfl) rfl) (fun x b W hb=>wz.calls k x.f0 x.f1 x.f2 x.f3 b W hb) A0 c0 l0 r w hr0 h
end Go.Proofs.YtkcdefnpbnbaeaaGreatDoor.Pr
namespace Go.Proofs.YtkcdefnpbnbaeaaGreatDoor.Pr
open Go.RowKit Go.Proofs.YtkcdefnpbnbaeaaGreatDoorW.PrintWords Go.Proofs.YtkcdefnpbnbaeaaGreatDoorW.PrintLast Go.Proofs.YtkcdefnpbnbaeaaGreatDoorW.PrintMore
attribute [local go_sem] max2_int min2_int max_two min_two max_three min_three max_four min_four
set_option linter.unusedVariables false
set_option linter.unusedSimpArgs false
attribute [local go_sem high] eqA30
def qzq.f (a0_0:Int) (a0_1:Int) (a0_2:ByteArray) (a0_3:ByteArray):Option (Bool):=some (a0_0 == 0 && (a0_1 == 0 && (a0_2.toList == ([]:List UInt8) && (a0_3.toList == ([]:List UInt8)))))
theorem qzq.calls (a0_0:Int) (a0_1:Int) (a0_2:ByteArray) (a0_3:ByteArray) (r:Bool) (w:World) (h:qzq.f a0_0 a0_1 a0_2 a0_3=some r) :
  Calls Tryz.prog 65 #[.agg #[.int .i64 a0_0,.int .i64 a0_1,.string a0_2,.string a0_3]] w fun e w'=>e=.returned (.bool r)∧Below w.heap.size w w':=by
 have hu30:=Tryz.underlying30;have HB:=U.mk (Below.refl w.heap.size w);unfold qzq.f at h;have H:=h;clear h;obtain rfl:=Option.some.inj H;go_enter Tryz.func65,Tryz.ntmps65;go_wp2_with (first|((with_reducible refine gate_dst (N:=1) rfl ?_);refine box_event ?hg (N:=1) ?hd (cs:=#[.int .i64 a0_0,.int .i64 a0_1,.string a0_2,.string a0_3]) (t:=30) ?hr ?_;(case hd=>rfl);(case hg=>rfl);(case hr=>first|(go_simp;done)|(go_simp;rfl));intro gb101 hg w2 hbox hb;have BK101:=U.mk (hbox);have GW101:=U.mk ((by rw[hg];exact(zq (by solve_by_elim only[HB.out,L,O,J])):w.heap.size≤gb101));have GE101:=GW101;replace HB:=U.mk (qx (by solve_by_elim only[HB.out,L,O,J]) hb);clear hb hbox hg;obtain⟨y3_0,y3_1,y3_2,y3_3,z3_0,z3_1,z3_2,z3_3⟩:=bx4f BK101.out))
 go_ret
 exact⟨by first|rfl|(simp[*,zw,zv] <;> rfl),by solve_by_elim (maxDepth:=20) only[HB.out,L,O,J,qz,GE101.out]⟩
end Go.Proofs.YtkcdefnpbnbaeaaGreatDoor.Pr
namespace Go.Proofs.YtkcdefnpbnbaeaaGreatDoor.Pr
open Go.RowKit Go.Proofs.YtkcdefnpbnbaeaaGreatDoorW.PrintWords Go.Proofs.YtkcdefnpbnbaeaaGreatDoorW.PrintLast Go.Proofs.YtkcdefnpbnbaeaaGreatDoorW.PrintMore
attribute [local go_sem] max2_int min2_int max_two min_two max_three min_three max_four min_four
set_option linter.unusedVariables false
set_option linter.unusedSimpArgs false
def cmp_isNaN_string.f (a0:ByteArray):Option (Bool):=some (a0.toList != a0.toList)
theorem cmp_isNaN_string.calls (a0:ByteArray) (r:Bool) (w:World) (h:cmp_isNaN_string.f a0=some r) :
  Calls Tryz.prog 110 #[.string a0] w fun e w'=>e=.returned (.bool r)∧Drawn0 w w':=by
 have H:(some (a0.toList != a0.toList))=some r:=h;clear h;obtain rfl:=Option.some.inj H;go_enter Tryz.func110,Tryz.ntmps110;go_wp2;go_ret
 exact⟨by first|rfl|(simp;done)|(simp[*];done),by repeat(first|exact Drawn0.refl _|apply Drawn0.step)⟩
end Go.Proofs.YtkcdefnpbnbaeaaGreatDoor.Pr
namespace Go.Proofs.YtkcdefnpbnbaeaaGreatDoor.Pr
open Go.RowKit Go.Proofs.YtkcdefnpbnbaeaaGreatDoorW.PrintWords Go.Proofs.YtkcdefnpbnbaeaaGreatDoorW.PrintLast Go.Proofs.YtkcdefnpbnbaeaaGreatDoorW.PrintMore
set_option linter.unusedVariables false
set_option linter.unusedSimpArgs false
def cmpS (a b:ByteArray):Int:=if Op.bytesLess a.toList b.toList=true then -1 else if (!(Op.bytesLess a.toList b.toList || a.toList == b.toList))=true then 1 else 0
def cmp_Compare_string.f (a0:ByteArray) (a1:ByteArray):Option Int:=some (cmpS a0 a1)
set_option maxHeartbeats 1000000 in
theorem cmp_Compare_string.calls (a0:ByteArray) (a1:ByteArray) (r:Int) (w:World) (h:cmp_Compare_string.f a0 a1=some r) :
  Calls Tryz.prog 99 #[.string a0,.string a1] w fun e w'=>e=.returned (.int .i64 r)∧Drawn0 w w':=by
 obtain rfl:=Option.some.inj h;clear h;have hN:=fun (s:ByteArray) (W':World)=>cmp_isNaN_string.calls s false W' (by unfold cmp_isNaN_string.f;rw[bne_self_eq_false])
 by_cases hl:Op.bytesLess a0.toList a1.toList=true
 ·rw[show cmpS a0 a1 = -1 from by unfold cmpS;rw[if_pos hl]];go_enter Tryz.func99,Tryz.ntmps99;go_wp2_with (go_at_call 110;refine(hN _ _).mono ?_;rintro e w' ⟨rfl,nd,rfl⟩)
  go_ret
  exact⟨rfl,by repeat(first|exact Drawn0.refl _|apply Drawn0.step)⟩
 have hl0:Op.bytesLess a0.toList a1.toList=false:=jq9.2 hl
 by_cases he:(a0.toList == a1.toList)=true
 ·rw[show cmpS a0 a1=0 from by unfold cmpS;rw[if_neg hl,hl0,he];rfl];go_enter Tryz.func99,Tryz.ntmps99;go_wp2_with (go_at_call 110;refine(hN _ _).mono ?_;rintro e w' ⟨rfl,nd,rfl⟩)
  go_ret
  exact⟨rfl,by repeat(first|exact Drawn0.refl _|apply Drawn0.step)⟩
 ·have he0:(a0.toList == a1.toList)=false:=jq9.2 he;rw[show cmpS a0 a1=1 from by unfold cmpS;rw[if_neg hl,hl0,he0];rfl];go_enter Tryz.func99,Tryz.ntmps99;go_wp2_with (go_at_call 110;refine(hN _ _).mono ?_;rintro e w' ⟨rfl,nd,rfl⟩)
  go_ret
  exact⟨rfl,by repeat(first|exact Drawn0.refl _|apply Drawn0.step)⟩
end Go.Proofs.YtkcdefnpbnbaeaaGreatDoor.Pr
namespace Go.Proofs.YtkcdefnpbnbaeaaGreatDoor.Pr
open Go.RowKit Go.Proofs.YtkcdefnpbnbaeaaGreatDoorW.PrintWords Go.Proofs.YtkcdefnpbnbaeaaGreatDoorW.PrintLast Go.Proofs.YtkcdefnpbnbaeaaGreatDoorW.PrintMore
attribute [local go_sem] max2_int min2_int max_two min_two max_three min_three max_four min_four
set_option linter.unusedVariables false
set_option linter.unusedSimpArgs false
def cmp_Or_int.l0:Nat→Int→List Int→Int→Int→Option (Int)
 | 0,_,_,_,_=>none
 | k + 1,x3,x6,x7,x8=>if x8 < x7 then(if 0≤x8 then(if x8 < (x6.length:Int) then(if (rd x6 x8)=x3 then(cmp_Or_int.l0 k x3 x6 x7 (wrap64 (x8 + 1))) else(some (rd x6 x8))) else(none)) else(none)) else(some x3)
def cmp_Or_int.f (k:Nat) (l0:List Int):Option (Int):=cmp_Or_int.l0 k 0 l0 (l0.length:Int) 0
theorem cmp_Or_int.mono_l:∀ k,(∀ y0 y1 y2 y3,LeO (cmp_Or_int.l0 k y0 y1 y2 y3) (cmp_Or_int.l0 (k + 1) y0 y1 y2 y3))
 | 0=>fun _ _ _ _ r h=>by simp[cmp_Or_int.l0] at h
 | k + 1=>by
  have ih0:=cmp_Or_int.mono_l k
  ·intro y0 y1 y2 y3
   unfold cmp_Or_int.l0
   repeat' first
   | (with_reducible exact ih0 _ _ _ _)
   | (with_reducible exact LeO.refl _)
   | (with_reducible exact LeO.none _)
   | (with_reducible refine LeO.ite ?_ ?_)
   | (with_reducible refine LeO.bind ?_ (fun _=>?_))
   | exact ih0 _ _ _ _
   | exact LeO.none _
   | refine LeO.ite ?_ ?_
   | refine LeO.bind ?_ (fun _=>?_)
theorem cmp_Or_int.mono:∀ a0 k,LeO (cmp_Or_int.f k a0) (cmp_Or_int.f (k + 1) a0):=by
 intro a0 k
 have ih0:=cmp_Or_int.mono_l k;unfold cmp_Or_int.f
 repeat' first
   | (with_reducible exact ih0 _ _ _ _)
   | (with_reducible exact LeO.refl _)
   | (with_reducible exact LeO.none _)
   | (with_reducible refine LeO.ite ?_ ?_)
   | (with_reducible refine LeO.bind ?_ (fun _=>?_))
   | exact ih0 _ _ _ _
   | exact LeO.none _
   | refine LeO.ite ?_ ?_
   | refine LeO.bind ?_ (fun _=>?_)
theorem cmp_Or_int.calls (k:Nat) (A0:Option Addr) (c0:Nat) (l0:List Int) (r:Int) (w:World) (hr0:Kd.C (Kd.int .i64) w A0 l0.length l0) (hc0:l0.length≤c0) (h:cmp_Or_int.f k l0=some r) :
  Calls Tryz.prog 97 #[.slice A0 l0.length c0] w fun e w'=>e=.returned (.int .i64 r)∧Drawn0 w w':=by
 have HR0:=U.mk hr0;have HC0:=U.mk hc0;clear hr0 hc0;have H:(cmp_Or_int.l0 k 0 l0 (l0.length:Int) 0)=some r:=h;clear h;have H':=U.mk H;clear H;go_enter Tryz.func97,Tryz.ntmps97;go_wp2
 go_loopg [8] k (fun kq v8 w'=>∃ (x8_1:Int),v8=.int .i64 x8_1∧U (cmp_Or_int.l0 kq 0 l0 (l0.length:Int) x8_1=some r)∧U (kq≤k)∧Drawn0 w w')
 case atStart=>exact⟨(0),(by first|rfl|(simp;done)|(simp[*];done)),H',⟨Nat.le_refl _⟩,by repeat(first|exact Drawn0.refl _|apply Drawn0.step)⟩
 case round =>
  clear H';obtain⟨x8_1,rfl,HA,HK1,⟨m1,rfl⟩⟩:=hrel
  cases gk with
  | zero=>exact absurd HA.out (by simp[cmp_Or_int.l0])
  | succ k1 =>
   have H:=HA.out;clear HA;simp only[cmp_Or_int.l0] at H
   by_cases c2:x8_1 < (l0.length:Int)
   ·rw[if_pos c2] at H;have c2b0:decide (x8_1 < (l0.length:Int))=true:=decide_eq_true c2;clear c2
    by_cases c3 : 0≤x8_1
    ·rw[if_pos c3] at H;have c3b0:decide (0≤x8_1)=true:=decide_eq_true c3;clear c3
     by_cases c4:x8_1 < (l0.length:Int)
     ·rw[if_pos c4] at H;have c4b0:decide (x8_1 < (l0.length:Int))=true:=decide_eq_true c4;clear c4
      by_cases c5:(rd l0 x8_1)=0
      ·rw[if_pos c5] at H;have c5b0:((rd l0 x8_1) == 0)=true:=beq_iff_eq.mpr c5;have c5b1:((rd l0 x8_1) != 0)=false:=bne_eq_false_iff_eq.mpr c5;clear c5;have H':=U.mk H;clear H;have p101 : 0≤(x8_1:Int):=of_decide_eq_true (by assumption);have q101:x8_1 < (l0.length:Int):=of_decide_eq_true (by assumption);obtain⟨ad101,e101,hx101_0⟩:=Kd.at_int HR0.out x8_1 p101 q101
       cases e101
       replace p101:=eq_true p101;replace q101:=eq_true q101;go_wp2;go_roundg k1
       case measure=>have:=HK1.out;omega
       case rel=>exact⟨(wrap64 (x8_1 + 1)),(by first|rfl|(simp;done)|(simp[*];done)),H',⟨by have:=HK1.out;omega⟩,by repeat(first|exact Drawn0.refl _|apply Drawn0.step)⟩
      ·rw[if_neg c5] at H;have c5b0:((rd l0 x8_1) == 0)=false:=beq_eq_false_iff_ne.mpr c5;have c5b1:((rd l0 x8_1) != 0)=true:=bne_iff_ne.mpr c5;obtain rfl:=Option.some.inj H;have p101 : 0≤(x8_1:Int):=of_decide_eq_true (by assumption);have q101:x8_1 < (l0.length:Int):=of_decide_eq_true (by assumption);obtain⟨ad101,e101,hx101_0⟩:=Kd.at_int HR0.out x8_1 p101 q101
       cases e101
       replace p101:=eq_true p101;replace q101:=eq_true q101;go_wp2;go_ret
       exact⟨by first|rfl|(simp;done)|(simp[*];done),by repeat(first|exact Drawn0.refl _|apply Drawn0.step)⟩
     ·rw[if_neg c4] at H;exact absurd H (by simp)
    ·rw[if_neg c3] at H;exact absurd H (by simp)
   ·rw[if_neg c2] at H;have c2b0:decide (x8_1 < (l0.length:Int))=false:=decide_eq_false c2;clear c2;obtain rfl:=Option.some.inj H;go_wp2;go_ret
    exact⟨by first|rfl|(simp;done)|(simp[*];done),by repeat(first|exact Drawn0.refl _|apply Drawn0.step)⟩
end Go.Proofs.YtkcdefnpbnbaeaaGreatDoor.Pr
namespace Go.Proofs.YtkcdefnpbnbaeaaGreatDoor.Pr
open Go.RowKit Go.Proofs.YtkcdefnpbnbaeaaGreatDoorW.PrintWords Go.Proofs.YtkcdefnpbnbaeaaGreatDoorW.PrintLast Go.Proofs.YtkcdefnpbnbaeaaGreatDoorW.PrintMore
attribute [local go_sem] max2_int min2_int max_two min_two max_three min_three max_four min_four
set_option linter.unusedVariables false
set_option linter.unusedSimpArgs false
def cmp_isNaN_int.f (a0:Int):Option (Bool):=some (a0 != a0)
theorem cmp_isNaN_int.calls (a0:Int) (r:Bool) (w:World) (h:cmp_isNaN_int.f a0=some r) :
  Calls Tryz.prog 109 #[.int .i64 a0] w fun e w'=>e=.returned (.bool r)∧Drawn0 w w':=by
 have H:(some (a0 != a0))=some r:=h;clear h;obtain rfl:=Option.some.inj H;go_enter Tryz.func109,Tryz.ntmps109;go_wp2;go_ret
 exact⟨by first|rfl|(simp;done)|(simp[*];done),by repeat(first|exact Drawn0.refl _|apply Drawn0.step)⟩
end Go.Proofs.YtkcdefnpbnbaeaaGreatDoor.Pr
