/- Printed texts, walks and plain facts that the law FnExactGoodAttack leans on, joined. -/
import Derived.Test.YtakocdkcfjkmdaaFullFnExactGoodAttackB
import Derived.Deep.QuietTactic
import Derived.BigQuiet
import Derived.Laws.Cover1
import Derived.StillTailTactics
import Derived.WalkSpells
import Derived.Shelf.Abstract
set_option maxHeartbeats 8000000
set_option maxRecDepth 100000
open List renaming map_toArray → jq0, map_cons → jq1, map_nil → jq2, length_drop → jq3, length_take → jq4, setIfInBounds_toArray → jq5, set_cons_zero → jq6, set_cons_succ → jq7
open Option renaming bind_eq_some_iff → jq8
open Bool renaming eq_false_iff → jq9, true → Z, false → Y
namespace Go.Proofs.Ytakocdkcfjkmdaa.Pr
open Go.RowKit Go.Proofs.YtakocdkcfjkmdaaW.PrintWords Go.Proofs.YtakocdkcfjkmdaaW.PrintLast Go.Proofs.YtakocdkcfjkmdaaW.PrintMore
attribute [local go_sem] max2_int min2_int max_two min_two max_three min_three max_four min_four
set_option linter.unusedVariables false
set_option linter.unusedSimpArgs false
def qwj.l0:Nat→List (S77)→Int→Int→List (S77)→List Int→Int→Int→ByteArray→ByteArray→Bool→Bool→Option (ByteArray × List Int × List ByteArray × List ByteArray × List Int × Bool)
 | 0,_,_,_,_,_,_,_,_,_,_,_=>none
 | k + 1,x8,x9,x10,x102000,x102001,x102002,x102003,x102004,x102005,x102006,x102007=>if x10 < x9 then(if 0≤x10 then(if x10 < (x8.length:Int) then(if ((kw x8 x10).f0).toList=x102004.toList then(some ((kw x8 x10).f0,(kw x8 x10).f1,(kw x8 x10).f2,(kw x8 x10).f3,(kw x8 x10).f4,true)) else(qwj.l0 k x8 x9 (wrap64 (x10 + 1)) x102000 x102001 x102002 x102003 x102004 x102005 x102006 x102007)) else(none)) else(none)) else(some ((⟨#[]⟩ : ByteArray),([]:List Int),([]:List ByteArray),([]:List ByteArray),([]:List Int),false))
def qwj.f (k:Nat) (l0_0:List (S77)) (l0_1:List Int) (a0_2:Int) (a0_3:Int) (a0_4:ByteArray) (a0_5:ByteArray) (a0_6:Bool) (a0_7:Bool):Option (ByteArray × List Int × List ByteArray × List ByteArray × List Int × Bool):=qwj.l0 k l0_0 (l0_0.length:Int) 0 l0_0 l0_1 a0_2 a0_3 a0_4 a0_5 a0_6 a0_7
theorem qwj.calls (k:Nat) (P0_0_:Nat→Prop) (A0_0:Option Addr) (c0_0:Nat) (l0_0:List (S77)) (A0_1:Option Addr) (c0_1:Nat) (l0_1:List Int) (a0_2:Int) (a0_3:Int) (a0_4:ByteArray) (a0_5:ByteArray) (a0_6:Bool) (a0_7:Bool) (r1:ByteArray) (r2:List Int) (r3:List ByteArray) (r4:List ByteArray) (r5:List Int) (r6:Bool) (w:World) (hs0_0:Kd.V k77 77 w w.heap.size (fun k_=>P0_0_ k_) (.slice A0_0 l0_0.length c0_0) l0_0) (hr0_1:Kd.C (Kd.int .u8) w A0_1 l0_1.length l0_1) (hc0_1:l0_1.length≤c0_1) (h:qwj.f k l0_0 l0_1 a0_2 a0_3 a0_4 a0_5 a0_6 a0_7=some (r1,r2,r3,r4,r5,r6)) :
  Calls Try.prog 59 #[.agg #[.slice A0_0 l0_0.length c0_0,.slice A0_1 l0_1.length c0_1,.int .i64 a0_2,.int .i64 a0_3,.string a0_4,.string a0_5,.bool a0_6,.bool a0_7]] w fun e w'=>∃ v1_ v2_ v3_ v4_:Value,e=.returned (.tuple #[.agg #[.string r1,v1_,v2_,v3_,v4_],.bool r6])∧Kd.V (Kd.int .u8) 5 w' w.heap.size (fun k_=>(P0_0_ k_∨w.heap.size≤k_)) v1_ r2∧Kd.V Kd.string 9 w' w.heap.size (fun k_=>(P0_0_ k_∨w.heap.size≤k_)) v2_ r3∧Kd.V Kd.string 9 w' w.heap.size (fun k_=>(P0_0_ k_∨w.heap.size≤k_)) v3_ r4∧Kd.V (Kd.int .i64) 3 w' w.heap.size (fun k_=>(P0_0_ k_∨w.heap.size≤k_)) v4_ r5∧Below w.heap.size w w':=by
 have hu62:=Try.underlying62
 have hu77:=Try.underlying77
 have HO0_0:=X.mk (show Kd.V k77 77 w w.heap.size (fun k_=>(P0_0_ k_∨w.heap.size≤k_)) (.slice A0_0 l0_0.length c0_0) l0_0 from Kd.V_mono hs0_0 (fun k_ hk=>.inl hk))
 have HR0_1:=X.mk hr0_1
 have HC0_1:=X.mk hc0_1
 clear hr0_1 hc0_1
 have HB:=X.mk (Below.refl w.heap.size w)
 unfold qwj.f at h
 have H:=h
 clear h
 have H':=X.mk H
 clear H
 go_enter Try.func59,Try.ntmps59
 go_wp2_with (first|((with_reducible refine gate_dst (N:=1) rfl ?_);refine box_event ?hg (N:=1) ?hd (cs:=#[.slice A0_0 l0_0.length c0_0,.slice A0_1 l0_1.length c0_1,.int .i64 a0_2,.int .i64 a0_3,.string a0_4,.string a0_5,.bool a0_6,.bool a0_7]) (t:=62) ?hr ?_;(case hd=>rfl);(case hg=>rfl);(case hr=>first|(go_simp;done)|(go_simp;rfl));intro gb101 hg w2 hbox hb;replace HO0_0:=X.mk (Kd.V_below (Kd.V_elderB (by(with_reducible repeat(first|apply Kd.jx|apply Kd.jw|apply Kd.kz));exact HO0_0.out) gb101 (Nat.le_of_eq hg.symm)) hb);have BK101:=X.mk (hbox);have GW101:=X.mk ((by rw[hg];exact(qx (by solve_by_elim only[HB.out,O,U,L])):w.heap.size≤gb101));have GE101:=X.mk ((by rw[hg];exact(qx (by solve_by_elim only[HB.out,O,U,L])):w.heap.size≤gb101));replace HB:=X.mk (qw (by solve_by_elim only[HB.out,O,U,L]) hb);clear hb hbox hg)|((with_reducible refine gate_dst (N:=2) rfl ?_);refine box_event ?hg (N:=2) ?hd (cs:=#[.string (⟨#[]⟩ : ByteArray),.slice none 0 0,.slice none 0 0,.slice none 0 0,.slice none 0 0]) (t:=77) ?hr ?_;(case hd=>rfl);(case hg=>rfl);(case hr=>first|(go_simp;done)|(go_simp;rfl));intro gb102 hg w3 hbox hb;replace HO0_0:=X.mk (Kd.V_below (Kd.V_elderB (by(with_reducible repeat(first|apply Kd.jx|apply Kd.jw|apply Kd.kz));exact HO0_0.out) gb102 (Nat.le_of_eq hg.symm)) hb);have BK102:=X.mk (hbox);have GW102:=X.mk ((by rw[hg];exact(qx (by solve_by_elim (maxDepth:=20) only[HB.out,O,U,L,qq,GE101.out])):w.heap.size≤gb102));have GE102:=X.mk ((by rw[hg];exact(qx (by solve_by_elim (maxDepth:=20) only[HB.out,O,U,L,qq,GE101.out])):w.heap.size≤gb102));replace HB:=X.mk (qw (by solve_by_elim (maxDepth:=20) only[HB.out,O,U,L,qq,GE101.out]) hb);have NB101_102:=X.mk ((by rw[hg];exact Nat.ne_of_lt (blk_lt (g:=gb101) (o:=.cells #[.slice A0_0 l0_0.length c0_0,.slice A0_1 l0_1.length c0_1,.int .i64 a0_2,.int .i64 a0_3,.string a0_4,.string a0_5,.bool a0_6,.bool a0_7] 62 (0,0)) (by solve_by_elim only[BK101.out,qj,qk,qz])):gb101≠gb102));have NB102_101:=X.mk ((by rw[hg];exact Nat.ne_of_gt (blk_lt (g:=gb101) (o:=.cells #[.slice A0_0 l0_0.length c0_0,.slice A0_1 l0_1.length c0_1,.int .i64 a0_2,.int .i64 a0_3,.string a0_4,.string a0_5,.bool a0_6,.bool a0_7] 62 (0,0)) (by solve_by_elim only[BK101.out,qj,qk,qz])):gb102≠gb101));replace BK101:=X.mk (kj (g:=gb101) (o:=.cells #[.slice A0_0 l0_0.length c0_0,.slice A0_1 l0_1.length c0_1,.int .i64 a0_2,.int .i64 a0_3,.string a0_4,.string a0_5,.bool a0_6,.bool a0_7] 62 (0,0)) (by solve_by_elim only[BK101.out,qj,qk,qz]) hb);clear hb hbox hg;have hnb4:=NB101_102.out;have hnc4:=NB102_101.out;have hcz5_0:w3.cell? ⟨gb101,0,none⟩ = some (.slice A0_0 l0_0.length c0_0):=(I BK101.out 0).trans rfl;have hcz5_1:w3.cell? ⟨gb101,1,none⟩ = some (.slice A0_1 l0_1.length c0_1):=(I BK101.out 1).trans rfl;have hcz5_2:w3.cell? ⟨gb101,2,none⟩ = some (.int .i64 a0_2):=(I BK101.out 2).trans rfl;have hcz5_3:w3.cell? ⟨gb101,3,none⟩ = some (.int .i64 a0_3):=(I BK101.out 3).trans rfl;have hcz5_4:w3.cell? ⟨gb101,4,none⟩ = some (.string a0_4):=(I BK101.out 4).trans rfl;have hcz5_5:w3.cell? ⟨gb101,5,none⟩ = some (.string a0_5):=(I BK101.out 5).trans rfl;have hcz5_6:w3.cell? ⟨gb101,6,none⟩ = some (.bool a0_6):=(I BK101.out 6).trans rfl;have hcz5_7:w3.cell? ⟨gb101,7,none⟩ = some (.bool a0_7):=(I BK101.out 7).trans rfl;have hfz5_0:=J BK101.out 0;have hfz5_1:=J BK101.out 1;have hfz5_2:=J BK101.out 2;have hfz5_3:=J BK101.out 3;have hfz5_4:=J BK101.out 4;have hfz5_5:=J BK101.out 5;have hfz5_6:=J BK101.out 6;have hfz5_7:=J BK101.out 7))
 go_loopg [10] k (fun kq v10 w'=>∃ (x10_1:Int) (x103000_1:ByteArray),v10=.int .i64 x10_1∧X (qwj.l0 kq l0_0 (l0_0.length:Int) x10_1 l0_0 l0_1 a0_2 a0_3 a0_4 a0_5 a0_6 a0_7=some (r1,r2,r3,r4,r5,r6))∧X (kq≤k)∧X (Kd.V k77 77 w' w.heap.size (fun k_=>(P0_0_ k_∨w.heap.size≤k_)∧k_≠gb101∧k_≠gb102) (.slice A0_0 l0_0.length c0_0) l0_0)∧X (Kd.V k77 77 w' w.heap.size (fun k_=>(P0_0_ k_∨w.heap.size≤k_)∧k_≠gb101∧k_≠gb102) (.slice A0_0 l0_0.length c0_0) l0_0)∧X (w'.heap[gb101]? = some (.cells #[(.slice A0_0 l0_0.length c0_0),(.slice A0_1 l0_1.length c0_1),.int .i64 a0_2,.int .i64 a0_3,.string a0_4,.string a0_5,.bool a0_6,.bool a0_7] 62 (0,0)))∧X (w'.heap[gb102]? = some (.cells #[.string x103000_1,(.slice none 0 0),(.slice none 0 0),(.slice none 0 0),(.slice none 0 0)] 77 (0,0)))∧X (Below w.heap.size w w'))
 case atStart=>exact⟨(0),((⟨#[]⟩ : ByteArray)),(by first|rfl|(simp;done)|(simp[*];done)),H',⟨Nat.le_refl _⟩,⟨by(with_reducible repeat(first|apply Kd.jx|apply Kd.jw|apply Kd.kz));exact Kd.V_mono HO0_0.out (fun _ hk=>⟨hk.1.1,⟨hk.1.2,hk.2⟩⟩)⟩,⟨by(with_reducible repeat(first|apply Kd.jx|apply Kd.jw|apply Kd.kz));exact Kd.V_mono HO0_0.out (fun _ hk=>⟨hk.1.1,⟨hk.1.2,hk.2⟩⟩)⟩,⟨by(with_reducible repeat(first|refine qj ?_ _|refine qk ?_|refine qz ?_ _));exact BK101.out⟩,⟨by(with_reducible repeat(first|refine qj ?_ _|refine qk ?_|refine qz ?_ _));exact BK102.out⟩,⟨by repeat(first|(with_reducible first|exact HB.out|apply O|apply U|apply L|refine qq ?_ GE101.out|refine qq ?_ GE102.out)|exact HB.out)⟩⟩
 case round =>
  clear H'
  try clear p2
  try clear c4
  try clear c5
  try clear hcz5_0
  try clear hcz5_1
  try clear hcz5_2
  try clear hcz5_3
  try clear hcz5_4
  try clear hcz5_5
  try clear hcz5_6
  try clear hcz5_7
  try clear hfz5_0
  try clear hfz5_1
  try clear hfz5_2
  try clear hfz5_3
  try clear hfz5_4
  try clear hfz5_5
  try clear hfz5_6
  try clear hfz5_7
  obtain⟨x10_1,x103000_1,rfl,HA,HK1,HO_8,HO_102000,BK101,BK102,HB⟩:=hrel
  cases gk with
  | zero=>exact absurd HA.out (by simp[qwj.l0])
  | succ k1 =>
   have H:=HA.out
   clear HA
   simp only[qwj.l0] at H
   by_cases c6:x10_1 < (l0_0.length:Int)
   ·rw[if_pos c6] at H
    have c6b0:decide (x10_1 < (l0_0.length:Int))=true:=decide_eq_true c6
    clear c6
    by_cases c7 : 0≤x10_1
    ·rw[if_pos c7] at H
     have c7b0:decide (0≤x10_1)=true:=decide_eq_true c7
     clear c7
     by_cases c8:x10_1 < (l0_0.length:Int)
     ·rw[if_pos c8] at H
      have c8b0:decide (x10_1 < (l0_0.length:Int))=true:=decide_eq_true c8
      clear c8
      by_cases c9:((kw l0_0 x10_1).f0).toList=a0_4.toList
      ·rw[if_pos c9] at H
       have c9b0:(((kw l0_0 x10_1).f0).toList == a0_4.toList)=true:=beq_iff_eq.mpr c9
       have c9b1:(((kw l0_0 x10_1).f0).toList != a0_4.toList)=false:=bne_eq_false_iff_eq.mpr c9
       clear c9
       simp only[Option.some.injEq,Prod.mk.injEq] at H
       obtain⟨rfl,rfl,rfl,rfl,rfl,rfl⟩:=H
       have p103 : 0≤(x10_1:Int):=of_decide_eq_true (by assumption)
       have q103:x10_1 < (l0_0.length:Int):=of_decide_eq_true (by assumption)
       obtain⟨ad103,A103_1,c103_1,A103_2,c103_2,A103_3,c103_3,A103_4,c103_4,e103,hx103_0,hx103_1,hx103_2,hx103_3,hx103_4,hl103_1,hi103_1,hl103_2,hi103_2,hl103_3,hi103_3,hl103_4,hi103_4⟩:=at_T77 (Kd.V_reads' HO_8.out).2.2 x10_1 p103 q103
       cases e103
       obtain⟨ce103,hce103,hMe103,hcc103⟩:=Kd.V_get HO_8.out z77 x10_1 p103 (by first|exact q103|exact of_decide_eq_true (by assumption)|(have e_:=(Kd.V_reads' HO_8.out).1;omega))
       obtain⟨ua103_1,uc103_1,ua103_2,uc103_2,ua103_3,uc103_3,ua103_4,uc103_4,rfl,ul103_1,ge103_1,ul103_2,ge103_2,ul103_3,ge103_3,ul103_4,ge103_4⟩:=k77_openF hMe103
       have hv103_1:=hcc103 1 _ rfl
       rw[add_field _ _ 1 (by omega)] at hv103_1
       replace hv103_1:=Option.some.inj (hv103_1.symm.trans hx103_1)
       injection hv103_1 with hva_ hvn_ hvc_
       rw[hva_] at ge103_1
       rw[hvc_] at ul103_1
       have HL103_1:=X.mk (show Kd.V (Kd.int .u8) 5 _ w.heap.size _ _ ((kw l0_0 x10_1).f1) from Kd.V_mk ul103_1 ge103_1)
       clear hva_ hvn_ hvc_ ge103_1 ul103_1
       have hv103_2:=hcc103 2 _ rfl
       rw[add_field _ _ 2 (by omega)] at hv103_2
       replace hv103_2:=Option.some.inj (hv103_2.symm.trans hx103_2)
       injection hv103_2 with hva_ hvn_ hvc_
       rw[hva_] at ge103_2
       rw[hvc_] at ul103_2
       have HL103_2:=X.mk (show Kd.V Kd.string 9 _ w.heap.size _ _ ((kw l0_0 x10_1).f2) from Kd.V_mk ul103_2 ge103_2)
       clear hva_ hvn_ hvc_ ge103_2 ul103_2
       have hv103_3:=hcc103 3 _ rfl
       rw[add_field _ _ 3 (by omega)] at hv103_3
       replace hv103_3:=Option.some.inj (hv103_3.symm.trans hx103_3)
       injection hv103_3 with hva_ hvn_ hvc_
       rw[hva_] at ge103_3
       rw[hvc_] at ul103_3
       have HL103_3:=X.mk (show Kd.V Kd.string 9 _ w.heap.size _ _ ((kw l0_0 x10_1).f3) from Kd.V_mk ul103_3 ge103_3)
       clear hva_ hvn_ hvc_ ge103_3 ul103_3
       have hv103_4:=hcc103 4 _ rfl
       rw[add_field _ _ 4 (by omega)] at hv103_4
       replace hv103_4:=Option.some.inj (hv103_4.symm.trans hx103_4)
       injection hv103_4 with hva_ hvn_ hvc_
       rw[hva_] at ge103_4
       rw[hvc_] at ul103_4
       have HL103_4:=X.mk (show Kd.V (Kd.int .i64) 3 _ w.heap.size _ _ ((kw l0_0 x10_1).f4) from Kd.V_mk ul103_4 ge103_4)
       clear hva_ hvn_ hvc_ ge103_4 ul103_4
       clear hcc103 hce103
       have HR103_1:=X.mk hi103_1
       have HC103_1:=X.mk hl103_1
       clear hi103_1 hl103_1
       have HR103_2:=X.mk hi103_2
       have HC103_2:=X.mk hl103_2
       clear hi103_2 hl103_2
       have HR103_3:=X.mk hi103_3
       have HC103_3:=X.mk hl103_3
       clear hi103_3 hl103_3
       have HR103_4:=X.mk hi103_4
       have HC103_4:=X.mk hl103_4
       clear hi103_4 hl103_4
       replace p103:=eq_true p103
       replace q103:=eq_true q103
       go_wp2_with (first|((with_reducible refine gate_dst (N:=5) rfl ?_);refine box_event ?hg (N:=5) ?hd (cs:=#[.string (⟨#[]⟩ : ByteArray),.slice none 0 0,.slice none 0 0,.slice none 0 0,.slice none 0 0]) (t:=77) ?hr ?_;(case hd=>rfl);(case hg=>rfl);(case hr=>first|(go_simp;done)|(go_simp;rfl));intro gb104 hg w10 hbox hb;replace HO_8:=X.mk (Kd.V_below (Kd.V_elderB (by(with_reducible repeat(first|apply Kd.jx|apply Kd.jw|apply Kd.kz));exact HO_8.out) gb104 (Nat.le_of_eq hg.symm)) hb);replace HO_102000:=X.mk (Kd.V_below (Kd.V_elderB (by(with_reducible repeat(first|apply Kd.jx|apply Kd.jw|apply Kd.kz));exact HO_102000.out) gb104 (Nat.le_of_eq hg.symm)) hb);replace HL103_1:=X.mk (Kd.V_below (Kd.V_elderB (by(with_reducible repeat(first|apply Kd.jx|apply Kd.jw|apply Kd.kz));exact HL103_1.out) gb104 (Nat.le_of_eq hg.symm)) hb);replace HL103_2:=X.mk (Kd.V_below (Kd.V_elderB (by(with_reducible repeat(first|apply Kd.jx|apply Kd.jw|apply Kd.kz));exact HL103_2.out) gb104 (Nat.le_of_eq hg.symm)) hb);replace HL103_3:=X.mk (Kd.V_below (Kd.V_elderB (by(with_reducible repeat(first|apply Kd.jx|apply Kd.jw|apply Kd.kz));exact HL103_3.out) gb104 (Nat.le_of_eq hg.symm)) hb);replace HL103_4:=X.mk (Kd.V_below (Kd.V_elderB (by(with_reducible repeat(first|apply Kd.jx|apply Kd.jw|apply Kd.kz));exact HL103_4.out) gb104 (Nat.le_of_eq hg.symm)) hb);replace HR103_1:=X.mk (Kd.C_below (by repeat(first|(with_reducible exact HR103_1.out)|(with_reducible refine Kd.C_alloc ?_ _)|(with_reducible refine Kd.C_drewN ?_ _)|(with_reducible refine Kd.C_drew ?_)|exact HR103_1.out)) hb);replace HR103_2:=X.mk (Kd.C_below (by repeat(first|(with_reducible exact HR103_2.out)|(with_reducible refine Kd.C_alloc ?_ _)|(with_reducible refine Kd.C_drewN ?_ _)|(with_reducible refine Kd.C_drew ?_)|exact HR103_2.out)) hb);replace HR103_3:=X.mk (Kd.C_below (by repeat(first|(with_reducible exact HR103_3.out)|(with_reducible refine Kd.C_alloc ?_ _)|(with_reducible refine Kd.C_drewN ?_ _)|(with_reducible refine Kd.C_drew ?_)|exact HR103_3.out)) hb);replace HR103_4:=X.mk (Kd.C_below (by repeat(first|(with_reducible exact HR103_4.out)|(with_reducible refine Kd.C_alloc ?_ _)|(with_reducible refine Kd.C_drewN ?_ _)|(with_reducible refine Kd.C_drew ?_)|exact HR103_4.out)) hb);have BK104:=X.mk (hbox);have GW104:=X.mk ((by rw[hg];exact(qx (by solve_by_elim (maxDepth:=20) only[HB.out,O,U,L,qq,GE101.out,qq,GE102.out])):w.heap.size≤gb104));have GE104:=X.mk ((by rw[hg];exact(qx (by solve_by_elim (maxDepth:=20) only[HB.out,O,U,L,qq,GE101.out,qq,GE102.out])):w.heap.size≤gb104));replace HB:=X.mk (qw (by solve_by_elim (maxDepth:=20) only[HB.out,O,U,L,qq,GE101.out,qq,GE102.out]) hb);have NB101_104:=X.mk ((by rw[hg];exact Nat.ne_of_lt (blk_lt (g:=gb101) (o:=.cells #[.slice (some ad103) l0_0.length c0_0,.slice A0_1 l0_1.length c0_1,.int .i64 a0_2,.int .i64 a0_3,.string a0_4,.string a0_5,.bool a0_6,.bool a0_7] 62 (0,0)) (by solve_by_elim only[BK101.out,qj,qk,qz])):gb101≠gb104));have NB104_101:=X.mk ((by rw[hg];exact Nat.ne_of_gt (blk_lt (g:=gb101) (o:=.cells #[.slice (some ad103) l0_0.length c0_0,.slice A0_1 l0_1.length c0_1,.int .i64 a0_2,.int .i64 a0_3,.string a0_4,.string a0_5,.bool a0_6,.bool a0_7] 62 (0,0)) (by solve_by_elim only[BK101.out,qj,qk,qz])):gb104≠gb101));replace BK101:=X.mk (kj (g:=gb101) (o:=.cells #[.slice (some ad103) l0_0.length c0_0,.slice A0_1 l0_1.length c0_1,.int .i64 a0_2,.int .i64 a0_3,.string a0_4,.string a0_5,.bool a0_6,.bool a0_7] 62 (0,0)) (by solve_by_elim only[BK101.out,qj,qk,qz]) hb);have NB102_104:=X.mk ((by rw[hg];exact Nat.ne_of_lt (blk_lt (g:=gb102) (o:=.cells #[.string x103000_1,.slice none 0 0,.slice none 0 0,.slice none 0 0,.slice none 0 0] 77 (0,0)) (by solve_by_elim only[BK102.out,qj,qk,qz])):gb102≠gb104));have NB104_102:=X.mk ((by rw[hg];exact Nat.ne_of_gt (blk_lt (g:=gb102) (o:=.cells #[.string x103000_1,.slice none 0 0,.slice none 0 0,.slice none 0 0,.slice none 0 0] 77 (0,0)) (by solve_by_elim only[BK102.out,qj,qk,qz])):gb104≠gb102));replace BK102:=X.mk (kj (g:=gb102) (o:=.cells #[.string x103000_1,.slice none 0 0,.slice none 0 0,.slice none 0 0,.slice none 0 0] 77 (0,0)) (by solve_by_elim only[BK102.out,qj,qk,qz]) hb);clear hb hbox hg;have hnb11:=NB104_101.out;have hnc11:=NB101_104.out;have hnb12:=NB104_102.out;have hnc12:=NB102_104.out;have hcz13_0:w10.cell? ⟨gb104,0,none⟩ = some (.string (⟨#[]⟩ : ByteArray)):=(I BK104.out 0).trans rfl;have hcz13_1:w10.cell? ⟨gb104,1,none⟩ = some (.slice none 0 0):=(I BK104.out 1).trans rfl;have hcz13_2:w10.cell? ⟨gb104,2,none⟩ = some (.slice none 0 0):=(I BK104.out 2).trans rfl;have hcz13_3:w10.cell? ⟨gb104,3,none⟩ = some (.slice none 0 0):=(I BK104.out 3).trans rfl;have hcz13_4:w10.cell? ⟨gb104,4,none⟩ = some (.slice none 0 0):=(I BK104.out 4).trans rfl;have hfz13_0:=J BK104.out 0;have hfz13_1:=J BK104.out 1;have hfz13_2:=J BK104.out 2;have hfz13_3:=J BK104.out 3;have hfz13_4:=J BK104.out 4;have hnb14:=NB101_102.out;have hnc14:=NB102_101.out;have hcz15_0:w10.cell? ⟨gb101,0,none⟩ = some (.slice (some ad103) l0_0.length c0_0):=(I BK101.out 0).trans rfl;have hcz15_1:w10.cell? ⟨gb101,1,none⟩ = some (.slice A0_1 l0_1.length c0_1):=(I BK101.out 1).trans rfl;have hcz15_2:w10.cell? ⟨gb101,2,none⟩ = some (.int .i64 a0_2):=(I BK101.out 2).trans rfl;have hcz15_3:w10.cell? ⟨gb101,3,none⟩ = some (.int .i64 a0_3):=(I BK101.out 3).trans rfl;have hcz15_4:w10.cell? ⟨gb101,4,none⟩ = some (.string a0_4):=(I BK101.out 4).trans rfl;have hcz15_5:w10.cell? ⟨gb101,5,none⟩ = some (.string a0_5):=(I BK101.out 5).trans rfl;have hcz15_6:w10.cell? ⟨gb101,6,none⟩ = some (.bool a0_6):=(I BK101.out 6).trans rfl;have hcz15_7:w10.cell? ⟨gb101,7,none⟩ = some (.bool a0_7):=(I BK101.out 7).trans rfl;have hfz15_0:=J BK101.out 0;have hfz15_1:=J BK101.out 1;have hfz15_2:=J BK101.out 2;have hfz15_3:=J BK101.out 3;have hfz15_4:=J BK101.out 4;have hfz15_5:=J BK101.out 5;have hfz15_6:=J BK101.out 6;have hfz15_7:=J BK101.out 7;have hcz16_0:w10.cell? ⟨gb102,0,none⟩ = some (.string x103000_1):=(I BK102.out 0).trans rfl;have hcz16_1:w10.cell? ⟨gb102,1,none⟩ = some (.slice none 0 0):=(I BK102.out 1).trans rfl;have hcz16_2:w10.cell? ⟨gb102,2,none⟩ = some (.slice none 0 0):=(I BK102.out 2).trans rfl;have hcz16_3:w10.cell? ⟨gb102,3,none⟩ = some (.slice none 0 0):=(I BK102.out 3).trans rfl;have hcz16_4:w10.cell? ⟨gb102,4,none⟩ = some (.slice none 0 0):=(I BK102.out 4).trans rfl;have hfz16_0:=J BK102.out 0;have hfz16_1:=J BK102.out 1;have hfz16_2:=J BK102.out 2;have hfz16_3:=J BK102.out 3;have hfz16_4:=J BK102.out 4))
       refine bodyPost_ret (results_ct rfl _ _ gb102 77 #[.string ((kw l0_0 x10_1).f0),.slice A103_1 ((kw l0_0 x10_1).f1).length c103_1,.slice A103_2 ((kw l0_0 x10_1).f2).length c103_2,.slice A103_3 ((kw l0_0 x10_1).f3).length c103_3,.slice A103_4 ((kw l0_0 x10_1).f4).length c103_4] (0,0) _ rfl (by(with_reducible repeat(first|refine qj ?_ _|refine qk ?_|refine qz ?_ _));refine blk_put (cs:=#[.string ((kw l0_0 x10_1).f0),.slice A103_1 ((kw l0_0 x10_1).f1).length c103_1,.slice A103_2 ((kw l0_0 x10_1).f2).length c103_2,.slice A103_3 ((kw l0_0 x10_1).f3).length c103_3,.slice none 0 0]) ?_ 4 _ rfl;(with_reducible repeat(first|refine qj ?_ _|refine qk ?_|refine qz ?_ _));refine blk_put (cs:=#[.string ((kw l0_0 x10_1).f0),.slice A103_1 ((kw l0_0 x10_1).f1).length c103_1,.slice A103_2 ((kw l0_0 x10_1).f2).length c103_2,.slice none 0 0,.slice none 0 0]) ?_ 3 _ rfl;(with_reducible repeat(first|refine qj ?_ _|refine qk ?_|refine qz ?_ _));refine blk_put (cs:=#[.string ((kw l0_0 x10_1).f0),.slice A103_1 ((kw l0_0 x10_1).f1).length c103_1,.slice none 0 0,.slice none 0 0,.slice none 0 0]) ?_ 2 _ rfl;(with_reducible repeat(first|refine qj ?_ _|refine qk ?_|refine qz ?_ _));refine blk_put (cs:=#[.string ((kw l0_0 x10_1).f0),.slice none 0 0,.slice none 0 0,.slice none 0 0,.slice none 0 0]) ?_ 1 _ rfl;(with_reducible repeat(first|refine qj ?_ _|refine qk ?_|refine qz ?_ _));refine blk_put (cs:=#[.string x103000_1,.slice none 0 0,.slice none 0 0,.slice none 0 0,.slice none 0 0]) ?_ 0 _ rfl;(with_reducible repeat(first|refine qj ?_ _|refine qk ?_|refine qz ?_ _));refine blk_far ?_ NB102_104.out _;(with_reducible repeat(first|refine qj ?_ _|refine qk ?_|refine qz ?_ _));refine blk_far ?_ NB102_104.out _;(with_reducible repeat(first|refine qj ?_ _|refine qk ?_|refine qz ?_ _));refine blk_far ?_ NB102_104.out _;(with_reducible repeat(first|refine qj ?_ _|refine qk ?_|refine qz ?_ _));refine blk_far ?_ NB102_104.out _;(with_reducible repeat(first|refine qj ?_ _|refine qk ?_|refine qz ?_ _));refine blk_far ?_ NB102_104.out _;(with_reducible repeat(first|refine qj ?_ _|refine qk ?_|refine qz ?_ _));exact BK102.out) Try.underlying77 rfl (by kernel_rfl)) rfl ?_
       exact⟨_,_,_,_,by first|rfl|(simp[*,zv,zk] <;> rfl),by(with_reducible repeat(first|apply Kd.jx|apply Kd.jw|apply Kd.kz));exact Kd.V_mono (Kd.V_far (p:=⟨gb102,4,none⟩) (Kd.V_far (p:=⟨gb102,3,none⟩) (Kd.V_far (p:=⟨gb102,2,none⟩) (Kd.V_far (p:=⟨gb102,1,none⟩) (Kd.V_far (p:=⟨gb102,0,none⟩) (Kd.V_far (p:=⟨gb104,4,none⟩) (Kd.V_far (p:=⟨gb104,3,none⟩) (Kd.V_far (p:=⟨gb104,2,none⟩) (Kd.V_far (p:=⟨gb104,1,none⟩) (Kd.V_far (p:=⟨gb104,0,none⟩) (Kd.V_mono (Kd.V_mono HL103_1.out (fun k_ hk=>(⟨hk,hk.2⟩ : _∧k_≠gb104))) (fun k_ hk=>(⟨hk,hk.1.1.2.2⟩ : _∧k_≠gb102))) (fun _ hk=>hk.1.2) (.string ((kw l0_0 x10_1).f0))) (fun _ hk=>hk.1.2) (.slice A103_1 ((kw l0_0 x10_1).f1).length c103_1)) (fun _ hk=>hk.1.2) (.slice A103_2 ((kw l0_0 x10_1).f2).length c103_2)) (fun _ hk=>hk.1.2) (.slice A103_3 ((kw l0_0 x10_1).f3).length c103_3)) (fun _ hk=>hk.1.2) (.slice A103_4 ((kw l0_0 x10_1).f4).length c103_4)) (fun _ hk=>hk.2) (.string ((kw l0_0 x10_1).f0))) (fun _ hk=>hk.2) (.slice A103_1 ((kw l0_0 x10_1).f1).length c103_1)) (fun _ hk=>hk.2) (.slice A103_2 ((kw l0_0 x10_1).f2).length c103_2)) (fun _ hk=>hk.2) (.slice A103_3 ((kw l0_0 x10_1).f3).length c103_3)) (fun _ hk=>hk.2) (.slice A103_4 ((kw l0_0 x10_1).f4).length c103_4)) (fun _ hk=>hk.1.1.1.1),by(with_reducible repeat(first|apply Kd.jx|apply Kd.jw|apply Kd.kz));exact Kd.V_mono (Kd.V_far (p:=⟨gb102,4,none⟩) (Kd.V_far (p:=⟨gb102,3,none⟩) (Kd.V_far (p:=⟨gb102,2,none⟩) (Kd.V_far (p:=⟨gb102,1,none⟩) (Kd.V_far (p:=⟨gb102,0,none⟩) (Kd.V_far (p:=⟨gb104,4,none⟩) (Kd.V_far (p:=⟨gb104,3,none⟩) (Kd.V_far (p:=⟨gb104,2,none⟩) (Kd.V_far (p:=⟨gb104,1,none⟩) (Kd.V_far (p:=⟨gb104,0,none⟩) (Kd.V_mono (Kd.V_mono HL103_2.out (fun k_ hk=>(⟨hk,hk.2⟩ : _∧k_≠gb104))) (fun k_ hk=>(⟨hk,hk.1.1.2.2⟩ : _∧k_≠gb102))) (fun _ hk=>hk.1.2) (.string ((kw l0_0 x10_1).f0))) (fun _ hk=>hk.1.2) (.slice A103_1 ((kw l0_0 x10_1).f1).length c103_1)) (fun _ hk=>hk.1.2) (.slice A103_2 ((kw l0_0 x10_1).f2).length c103_2)) (fun _ hk=>hk.1.2) (.slice A103_3 ((kw l0_0 x10_1).f3).length c103_3)) (fun _ hk=>hk.1.2) (.slice A103_4 ((kw l0_0 x10_1).f4).length c103_4)) (fun _ hk=>hk.2) (.string ((kw l0_0 x10_1).f0))) (fun _ hk=>hk.2) (.slice A103_1 ((kw l0_0 x10_1).f1).length c103_1)) (fun _ hk=>hk.2) (.slice A103_2 ((kw l0_0 x10_1).f2).length c103_2)) (fun _ hk=>hk.2) (.slice A103_3 ((kw l0_0 x10_1).f3).length c103_3)) (fun _ hk=>hk.2) (.slice A103_4 ((kw l0_0 x10_1).f4).length c103_4)) (fun _ hk=>hk.1.1.1.1),by(with_reducible repeat(first|apply Kd.jx|apply Kd.jw|apply Kd.kz));exact Kd.V_mono (Kd.V_far (p:=⟨gb102,4,none⟩) (Kd.V_far (p:=⟨gb102,3,none⟩) (Kd.V_far (p:=⟨gb102,2,none⟩) (Kd.V_far (p:=⟨gb102,1,none⟩) (Kd.V_far (p:=⟨gb102,0,none⟩) (Kd.V_far (p:=⟨gb104,4,none⟩) (Kd.V_far (p:=⟨gb104,3,none⟩) (Kd.V_far (p:=⟨gb104,2,none⟩) (Kd.V_far (p:=⟨gb104,1,none⟩) (Kd.V_far (p:=⟨gb104,0,none⟩) (Kd.V_mono (Kd.V_mono HL103_3.out (fun k_ hk=>(⟨hk,hk.2⟩ : _∧k_≠gb104))) (fun k_ hk=>(⟨hk,hk.1.1.2.2⟩ : _∧k_≠gb102))) (fun _ hk=>hk.1.2) (.string ((kw l0_0 x10_1).f0))) (fun _ hk=>hk.1.2) (.slice A103_1 ((kw l0_0 x10_1).f1).length c103_1)) (fun _ hk=>hk.1.2) (.slice A103_2 ((kw l0_0 x10_1).f2).length c103_2)) (fun _ hk=>hk.1.2) (.slice A103_3 ((kw l0_0 x10_1).f3).length c103_3)) (fun _ hk=>hk.1.2) (.slice A103_4 ((kw l0_0 x10_1).f4).length c103_4)) (fun _ hk=>hk.2) (.string ((kw l0_0 x10_1).f0))) (fun _ hk=>hk.2) (.slice A103_1 ((kw l0_0 x10_1).f1).length c103_1)) (fun _ hk=>hk.2) (.slice A103_2 ((kw l0_0 x10_1).f2).length c103_2)) (fun _ hk=>hk.2) (.slice A103_3 ((kw l0_0 x10_1).f3).length c103_3)) (fun _ hk=>hk.2) (.slice A103_4 ((kw l0_0 x10_1).f4).length c103_4)) (fun _ hk=>hk.1.1.1.1),by(with_reducible repeat(first|apply Kd.jx|apply Kd.jw|apply Kd.kz));exact Kd.V_mono (Kd.V_far (p:=⟨gb102,4,none⟩) (Kd.V_far (p:=⟨gb102,3,none⟩) (Kd.V_far (p:=⟨gb102,2,none⟩) (Kd.V_far (p:=⟨gb102,1,none⟩) (Kd.V_far (p:=⟨gb102,0,none⟩) (Kd.V_far (p:=⟨gb104,4,none⟩) (Kd.V_far (p:=⟨gb104,3,none⟩) (Kd.V_far (p:=⟨gb104,2,none⟩) (Kd.V_far (p:=⟨gb104,1,none⟩) (Kd.V_far (p:=⟨gb104,0,none⟩) (Kd.V_mono (Kd.V_mono HL103_4.out (fun k_ hk=>(⟨hk,hk.2⟩ : _∧k_≠gb104))) (fun k_ hk=>(⟨hk,hk.1.1.2.2⟩ : _∧k_≠gb102))) (fun _ hk=>hk.1.2) (.string ((kw l0_0 x10_1).f0))) (fun _ hk=>hk.1.2) (.slice A103_1 ((kw l0_0 x10_1).f1).length c103_1)) (fun _ hk=>hk.1.2) (.slice A103_2 ((kw l0_0 x10_1).f2).length c103_2)) (fun _ hk=>hk.1.2) (.slice A103_3 ((kw l0_0 x10_1).f3).length c103_3)) (fun _ hk=>hk.1.2) (.slice A103_4 ((kw l0_0 x10_1).f4).length c103_4)) (fun _ hk=>hk.2) (.string ((kw l0_0 x10_1).f0))) (fun _ hk=>hk.2) (.slice A103_1 ((kw l0_0 x10_1).f1).length c103_1)) (fun _ hk=>hk.2) (.slice A103_2 ((kw l0_0 x10_1).f2).length c103_2)) (fun _ hk=>hk.2) (.slice A103_3 ((kw l0_0 x10_1).f3).length c103_3)) (fun _ hk=>hk.2) (.slice A103_4 ((kw l0_0 x10_1).f4).length c103_4)) (fun _ hk=>hk.1.1.1.1),by repeat(first|(with_reducible first|exact HB.out|apply O|apply U|apply L|refine qq ?_ GE101.out|refine qq ?_ GE102.out|refine qq ?_ GE104.out)|exact HB.out)⟩
      ·rw[if_neg c9] at H
       have c9b0:(((kw l0_0 x10_1).f0).toList == a0_4.toList)=false:=beq_eq_false_iff_ne.mpr c9
       have c9b1:(((kw l0_0 x10_1).f0).toList != a0_4.toList)=true:=bne_iff_ne.mpr c9
       have H':=X.mk H
       clear H
       have p103 : 0≤(x10_1:Int):=of_decide_eq_true (by assumption)
       have q103:x10_1 < (l0_0.length:Int):=of_decide_eq_true (by assumption)
       obtain⟨ad103,A103_1,c103_1,A103_2,c103_2,A103_3,c103_3,A103_4,c103_4,e103,hx103_0,hx103_1,hx103_2,hx103_3,hx103_4,hl103_1,hi103_1,hl103_2,hi103_2,hl103_3,hi103_3,hl103_4,hi103_4⟩:=at_T77 (Kd.V_reads' HO_8.out).2.2 x10_1 p103 q103
       cases e103
       obtain⟨ce103,hce103,hMe103,hcc103⟩:=Kd.V_get HO_8.out z77 x10_1 p103 (by first|exact q103|exact of_decide_eq_true (by assumption)|(have e_:=(Kd.V_reads' HO_8.out).1;omega))
       obtain⟨ua103_1,uc103_1,ua103_2,uc103_2,ua103_3,uc103_3,ua103_4,uc103_4,rfl,ul103_1,ge103_1,ul103_2,ge103_2,ul103_3,ge103_3,ul103_4,ge103_4⟩:=k77_openF hMe103
       have hv103_1:=hcc103 1 _ rfl
       rw[add_field _ _ 1 (by omega)] at hv103_1
       replace hv103_1:=Option.some.inj (hv103_1.symm.trans hx103_1)
       injection hv103_1 with hva_ hvn_ hvc_
       rw[hva_] at ge103_1
       rw[hvc_] at ul103_1
       have HL103_1:=X.mk (show Kd.V (Kd.int .u8) 5 _ w.heap.size _ _ ((kw l0_0 x10_1).f1) from Kd.V_mk ul103_1 ge103_1)
       clear hva_ hvn_ hvc_ ge103_1 ul103_1
       have hv103_2:=hcc103 2 _ rfl
       rw[add_field _ _ 2 (by omega)] at hv103_2
       replace hv103_2:=Option.some.inj (hv103_2.symm.trans hx103_2)
       injection hv103_2 with hva_ hvn_ hvc_
       rw[hva_] at ge103_2
       rw[hvc_] at ul103_2
       have HL103_2:=X.mk (show Kd.V Kd.string 9 _ w.heap.size _ _ ((kw l0_0 x10_1).f2) from Kd.V_mk ul103_2 ge103_2)
       clear hva_ hvn_ hvc_ ge103_2 ul103_2
       have hv103_3:=hcc103 3 _ rfl
       rw[add_field _ _ 3 (by omega)] at hv103_3
       replace hv103_3:=Option.some.inj (hv103_3.symm.trans hx103_3)
       injection hv103_3 with hva_ hvn_ hvc_
       rw[hva_] at ge103_3
       rw[hvc_] at ul103_3
       have HL103_3:=X.mk (show Kd.V Kd.string 9 _ w.heap.size _ _ ((kw l0_0 x10_1).f3) from Kd.V_mk ul103_3 ge103_3)
       clear hva_ hvn_ hvc_ ge103_3 ul103_3
       have hv103_4:=hcc103 4 _ rfl
       rw[add_field _ _ 4 (by omega)] at hv103_4
       replace hv103_4:=Option.some.inj (hv103_4.symm.trans hx103_4)
       injection hv103_4 with hva_ hvn_ hvc_
       rw[hva_] at ge103_4
       rw[hvc_] at ul103_4
       have HL103_4:=X.mk (show Kd.V (Kd.int .i64) 3 _ w.heap.size _ _ ((kw l0_0 x10_1).f4) from Kd.V_mk ul103_4 ge103_4)
       clear hva_ hvn_ hvc_ ge103_4 ul103_4
       clear hcc103 hce103
       have HR103_1:=X.mk hi103_1
       have HC103_1:=X.mk hl103_1
       clear hi103_1 hl103_1
       have HR103_2:=X.mk hi103_2
       have HC103_2:=X.mk hl103_2
       clear hi103_2 hl103_2
       have HR103_3:=X.mk hi103_3
       have HC103_3:=X.mk hl103_3
       clear hi103_3 hl103_3
       have HR103_4:=X.mk hi103_4
       have HC103_4:=X.mk hl103_4
       clear hi103_4 hl103_4
       replace p103:=eq_true p103
       replace q103:=eq_true q103
       go_wp2_with (first|((with_reducible refine gate_dst (N:=5) rfl ?_);refine box_event ?hg (N:=5) ?hd (cs:=#[.string (⟨#[]⟩ : ByteArray),.slice none 0 0,.slice none 0 0,.slice none 0 0,.slice none 0 0]) (t:=77) ?hr ?_;(case hd=>rfl);(case hg=>rfl);(case hr=>first|(go_simp;done)|(go_simp;rfl));intro gb104 hg w17 hbox hb;replace HO_8:=X.mk (Kd.V_below (Kd.V_elderB (by(with_reducible repeat(first|apply Kd.jx|apply Kd.jw|apply Kd.kz));exact HO_8.out) gb104 (Nat.le_of_eq hg.symm)) hb);replace HO_102000:=X.mk (Kd.V_below (Kd.V_elderB (by(with_reducible repeat(first|apply Kd.jx|apply Kd.jw|apply Kd.kz));exact HO_102000.out) gb104 (Nat.le_of_eq hg.symm)) hb);replace HL103_1:=X.mk (Kd.V_below (Kd.V_elderB (by(with_reducible repeat(first|apply Kd.jx|apply Kd.jw|apply Kd.kz));exact HL103_1.out) gb104 (Nat.le_of_eq hg.symm)) hb);replace HL103_2:=X.mk (Kd.V_below (Kd.V_elderB (by(with_reducible repeat(first|apply Kd.jx|apply Kd.jw|apply Kd.kz));exact HL103_2.out) gb104 (Nat.le_of_eq hg.symm)) hb);replace HL103_3:=X.mk (Kd.V_below (Kd.V_elderB (by(with_reducible repeat(first|apply Kd.jx|apply Kd.jw|apply Kd.kz));exact HL103_3.out) gb104 (Nat.le_of_eq hg.symm)) hb);replace HL103_4:=X.mk (Kd.V_below (Kd.V_elderB (by(with_reducible repeat(first|apply Kd.jx|apply Kd.jw|apply Kd.kz));exact HL103_4.out) gb104 (Nat.le_of_eq hg.symm)) hb);replace HR103_1:=X.mk (Kd.C_below (by repeat(first|(with_reducible exact HR103_1.out)|(with_reducible refine Kd.C_alloc ?_ _)|(with_reducible refine Kd.C_drewN ?_ _)|(with_reducible refine Kd.C_drew ?_)|exact HR103_1.out)) hb);replace HR103_2:=X.mk (Kd.C_below (by repeat(first|(with_reducible exact HR103_2.out)|(with_reducible refine Kd.C_alloc ?_ _)|(with_reducible refine Kd.C_drewN ?_ _)|(with_reducible refine Kd.C_drew ?_)|exact HR103_2.out)) hb);replace HR103_3:=X.mk (Kd.C_below (by repeat(first|(with_reducible exact HR103_3.out)|(with_reducible refine Kd.C_alloc ?_ _)|(with_reducible refine Kd.C_drewN ?_ _)|(with_reducible refine Kd.C_drew ?_)|exact HR103_3.out)) hb);replace HR103_4:=X.mk (Kd.C_below (by repeat(first|(with_reducible exact HR103_4.out)|(with_reducible refine Kd.C_alloc ?_ _)|(with_reducible refine Kd.C_drewN ?_ _)|(with_reducible refine Kd.C_drew ?_)|exact HR103_4.out)) hb);have BK104:=X.mk (hbox);have GW104:=X.mk ((by rw[hg];exact(qx (by solve_by_elim (maxDepth:=20) only[HB.out,O,U,L,qq,GE101.out,qq,GE102.out])):w.heap.size≤gb104));have GE104:=X.mk ((by rw[hg];exact(qx (by solve_by_elim (maxDepth:=20) only[HB.out,O,U,L,qq,GE101.out,qq,GE102.out])):w.heap.size≤gb104));replace HB:=X.mk (qw (by solve_by_elim (maxDepth:=20) only[HB.out,O,U,L,qq,GE101.out,qq,GE102.out]) hb);have NB101_104:=X.mk ((by rw[hg];exact Nat.ne_of_lt (blk_lt (g:=gb101) (o:=.cells #[.slice (some ad103) l0_0.length c0_0,.slice A0_1 l0_1.length c0_1,.int .i64 a0_2,.int .i64 a0_3,.string a0_4,.string a0_5,.bool a0_6,.bool a0_7] 62 (0,0)) (by solve_by_elim only[BK101.out,qj,qk,qz])):gb101≠gb104));have NB104_101:=X.mk ((by rw[hg];exact Nat.ne_of_gt (blk_lt (g:=gb101) (o:=.cells #[.slice (some ad103) l0_0.length c0_0,.slice A0_1 l0_1.length c0_1,.int .i64 a0_2,.int .i64 a0_3,.string a0_4,.string a0_5,.bool a0_6,.bool a0_7] 62 (0,0)) (by solve_by_elim only[BK101.out,qj,qk,qz])):gb104≠gb101));replace BK101:=X.mk (kj (g:=gb101) (o:=.cells #[.slice (some ad103) l0_0.length c0_0,.slice A0_1 l0_1.length c0_1,.int .i64 a0_2,.int .i64 a0_3,.string a0_4,.string a0_5,.bool a0_6,.bool a0_7] 62 (0,0)) (by solve_by_elim only[BK101.out,qj,qk,qz]) hb);have NB102_104:=X.mk ((by rw[hg];exact Nat.ne_of_lt (blk_lt (g:=gb102) (o:=.cells #[.string x103000_1,.slice none 0 0,.slice none 0 0,.slice none 0 0,.slice none 0 0] 77 (0,0)) (by solve_by_elim only[BK102.out,qj,qk,qz])):gb102≠gb104));have NB104_102:=X.mk ((by rw[hg];exact Nat.ne_of_gt (blk_lt (g:=gb102) (o:=.cells #[.string x103000_1,.slice none 0 0,.slice none 0 0,.slice none 0 0,.slice none 0 0] 77 (0,0)) (by solve_by_elim only[BK102.out,qj,qk,qz])):gb104≠gb102));replace BK102:=X.mk (kj (g:=gb102) (o:=.cells #[.string x103000_1,.slice none 0 0,.slice none 0 0,.slice none 0 0,.slice none 0 0] 77 (0,0)) (by solve_by_elim only[BK102.out,qj,qk,qz]) hb);clear hb hbox hg;have hnb18:=NB104_101.out;have hnc18:=NB101_104.out;have hnb19:=NB104_102.out;have hnc19:=NB102_104.out;have hcz20_0:w17.cell? ⟨gb104,0,none⟩ = some (.string (⟨#[]⟩ : ByteArray)):=(I BK104.out 0).trans rfl;have hcz20_1:w17.cell? ⟨gb104,1,none⟩ = some (.slice none 0 0):=(I BK104.out 1).trans rfl;have hcz20_2:w17.cell? ⟨gb104,2,none⟩ = some (.slice none 0 0):=(I BK104.out 2).trans rfl;have hcz20_3:w17.cell? ⟨gb104,3,none⟩ = some (.slice none 0 0):=(I BK104.out 3).trans rfl;have hcz20_4:w17.cell? ⟨gb104,4,none⟩ = some (.slice none 0 0):=(I BK104.out 4).trans rfl;have hfz20_0:=J BK104.out 0;have hfz20_1:=J BK104.out 1;have hfz20_2:=J BK104.out 2;have hfz20_3:=J BK104.out 3;have hfz20_4:=J BK104.out 4;have hnb21:=NB101_102.out;have hnc21:=NB102_101.out;have hcz22_0:w17.cell? ⟨gb101,0,none⟩ = some (.slice (some ad103) l0_0.length c0_0):=(I BK101.out 0).trans rfl;have hcz22_1:w17.cell? ⟨gb101,1,none⟩ = some (.slice A0_1 l0_1.length c0_1):=(I BK101.out 1).trans rfl;have hcz22_2:w17.cell? ⟨gb101,2,none⟩ = some (.int .i64 a0_2):=(I BK101.out 2).trans rfl;have hcz22_3:w17.cell? ⟨gb101,3,none⟩ = some (.int .i64 a0_3):=(I BK101.out 3).trans rfl;have hcz22_4:w17.cell? ⟨gb101,4,none⟩ = some (.string a0_4):=(I BK101.out 4).trans rfl;have hcz22_5:w17.cell? ⟨gb101,5,none⟩ = some (.string a0_5):=(I BK101.out 5).trans rfl;have hcz22_6:w17.cell? ⟨gb101,6,none⟩ = some (.bool a0_6):=(I BK101.out 6).trans rfl;have hcz22_7:w17.cell? ⟨gb101,7,none⟩ = some (.bool a0_7):=(I BK101.out 7).trans rfl;have hfz22_0:=J BK101.out 0;have hfz22_1:=J BK101.out 1;have hfz22_2:=J BK101.out 2;have hfz22_3:=J BK101.out 3;have hfz22_4:=J BK101.out 4;have hfz22_5:=J BK101.out 5;have hfz22_6:=J BK101.out 6;have hfz22_7:=J BK101.out 7))
       go_roundg k1
       case measure=>have:=HK1.out;omega
       case rel=>exact⟨(wrap64 (x10_1 + 1)),(x103000_1),(by first|rfl|(simp;done)|(simp[*];done)),H',⟨by have:=HK1.out;omega⟩,⟨by(with_reducible repeat(first|apply Kd.jx|apply Kd.jw|apply Kd.kz));exact Kd.V_mono (Kd.V_far (p:=⟨gb104,4,none⟩) (Kd.V_far (p:=⟨gb104,3,none⟩) (Kd.V_far (p:=⟨gb104,2,none⟩) (Kd.V_far (p:=⟨gb104,1,none⟩) (Kd.V_far (p:=⟨gb104,0,none⟩) (Kd.V_mono HO_8.out (fun k_ hk=>(⟨hk,hk.2⟩ : _∧k_≠gb104))) (fun _ hk=>hk.2) (.string ((kw l0_0 x10_1).f0))) (fun _ hk=>hk.2) (.slice A103_1 ((kw l0_0 x10_1).f1).length c103_1)) (fun _ hk=>hk.2) (.slice A103_2 ((kw l0_0 x10_1).f2).length c103_2)) (fun _ hk=>hk.2) (.slice A103_3 ((kw l0_0 x10_1).f3).length c103_3)) (fun _ hk=>hk.2) (.slice A103_4 ((kw l0_0 x10_1).f4).length c103_4)) (fun _ hk=>⟨hk.1.1.1,⟨hk.1.1.2.1,hk.1.1.2.2⟩⟩)⟩,⟨by(with_reducible repeat(first|apply Kd.jx|apply Kd.jw|apply Kd.kz));exact Kd.V_mono (Kd.V_far (p:=⟨gb104,4,none⟩) (Kd.V_far (p:=⟨gb104,3,none⟩) (Kd.V_far (p:=⟨gb104,2,none⟩) (Kd.V_far (p:=⟨gb104,1,none⟩) (Kd.V_far (p:=⟨gb104,0,none⟩) (Kd.V_mono HO_102000.out (fun k_ hk=>(⟨hk,hk.2⟩ : _∧k_≠gb104))) (fun _ hk=>hk.2) (.string ((kw l0_0 x10_1).f0))) (fun _ hk=>hk.2) (.slice A103_1 ((kw l0_0 x10_1).f1).length c103_1)) (fun _ hk=>hk.2) (.slice A103_2 ((kw l0_0 x10_1).f2).length c103_2)) (fun _ hk=>hk.2) (.slice A103_3 ((kw l0_0 x10_1).f3).length c103_3)) (fun _ hk=>hk.2) (.slice A103_4 ((kw l0_0 x10_1).f4).length c103_4)) (fun _ hk=>⟨hk.1.1.1,⟨hk.1.1.2.1,hk.1.1.2.2⟩⟩)⟩,⟨by(with_reducible repeat(first|refine qj ?_ _|refine qk ?_|refine qz ?_ _));refine blk_far ?_ NB101_104.out _;(with_reducible repeat(first|refine qj ?_ _|refine qk ?_|refine qz ?_ _));refine blk_far ?_ NB101_104.out _;(with_reducible repeat(first|refine qj ?_ _|refine qk ?_|refine qz ?_ _));refine blk_far ?_ NB101_104.out _;(with_reducible repeat(first|refine qj ?_ _|refine qk ?_|refine qz ?_ _));refine blk_far ?_ NB101_104.out _;(with_reducible repeat(first|refine qj ?_ _|refine qk ?_|refine qz ?_ _));refine blk_far ?_ NB101_104.out _;(with_reducible repeat(first|refine qj ?_ _|refine qk ?_|refine qz ?_ _));exact BK101.out⟩,⟨by(with_reducible repeat(first|refine qj ?_ _|refine qk ?_|refine qz ?_ _));refine blk_far ?_ NB102_104.out _;(with_reducible repeat(first|refine qj ?_ _|refine qk ?_|refine qz ?_ _));refine blk_far ?_ NB102_104.out _;(with_reducible repeat(first|refine qj ?_ _|refine qk ?_|refine qz ?_ _));refine blk_far ?_ NB102_104.out _;(with_reducible repeat(first|refine qj ?_ _|refine qk ?_|refine qz ?_ _));refine blk_far ?_ NB102_104.out _;(with_reducible repeat(first|refine qj ?_ _|refine qk ?_|refine qz ?_ _));refine blk_far ?_ NB102_104.out _;(with_reducible repeat(first|refine qj ?_ _|refine qk ?_|refine qz ?_ _));exact BK102.out⟩,⟨by repeat(first|(with_reducible first|exact HB.out|apply O|apply U|apply L|refine qq ?_ GE101.out|refine qq ?_ GE102.out|refine qq ?_ GE104.out)|exact HB.out)⟩⟩
     ·rw[if_neg c8] at H
      exact absurd H (by simp)
    ·rw[if_neg c7] at H
     exact absurd H (by simp)
   ·rw[if_neg c6] at H
    have c6b0:decide (x10_1 < (l0_0.length:Int))=false:=decide_eq_false c6
    clear c6
    simp only[Option.some.injEq,Prod.mk.injEq] at H
    obtain⟨rfl,rfl,rfl,rfl,rfl,rfl⟩:=H
    have hnb23:=NB102_101.out
    have hnc23:=NB101_102.out
    have hcz24_0:wr.cell? ⟨gb102,0,none⟩ = some (.string x103000_1):=(I BK102.out 0).trans rfl
    have hcz24_1:wr.cell? ⟨gb102,1,none⟩ = some (.slice none 0 0):=(I BK102.out 1).trans rfl
    have hcz24_2:wr.cell? ⟨gb102,2,none⟩ = some (.slice none 0 0):=(I BK102.out 2).trans rfl
    have hcz24_3:wr.cell? ⟨gb102,3,none⟩ = some (.slice none 0 0):=(I BK102.out 3).trans rfl
    have hcz24_4:wr.cell? ⟨gb102,4,none⟩ = some (.slice none 0 0):=(I BK102.out 4).trans rfl
    have hfz24_0:=J BK102.out 0
    have hfz24_1:=J BK102.out 1
    have hfz24_2:=J BK102.out 2
    have hfz24_3:=J BK102.out 3
    have hfz24_4:=J BK102.out 4
    go_wp2
    refine bodyPost_ret (results_ct rfl _ _ gb102 77 #[.string (⟨#[]⟩ : ByteArray),.slice none 0 0,.slice none 0 0,.slice none 0 0,.slice none 0 0] (0,0) _ rfl (by(with_reducible repeat(first|refine qj ?_ _|refine qk ?_|refine qz ?_ _));refine blk_put (cs:=#[.string (⟨#[]⟩ : ByteArray),.slice none 0 0,.slice none 0 0,.slice none 0 0,.slice none 0 0]) ?_ 4 _ rfl;(with_reducible repeat(first|refine qj ?_ _|refine qk ?_|refine qz ?_ _));refine blk_put (cs:=#[.string (⟨#[]⟩ : ByteArray),.slice none 0 0,.slice none 0 0,.slice none 0 0,.slice none 0 0]) ?_ 3 _ rfl;(with_reducible repeat(first|refine qj ?_ _|refine qk ?_|refine qz ?_ _));refine blk_put (cs:=#[.string (⟨#[]⟩ : ByteArray),.slice none 0 0,.slice none 0 0,.slice none 0 0,.slice none 0 0]) ?_ 2 _ rfl;(with_reducible repeat(first|refine qj ?_ _|refine qk ?_|refine qz ?_ _));refine blk_put (cs:=#[.string (⟨#[]⟩ : ByteArray),.slice none 0 0,.slice none 0 0,.slice none 0 0,.slice none 0 0]) ?_ 1 _ rfl;(with_reducible repeat(first|refine qj ?_ _|refine qk ?_|refine qz ?_ _));refine blk_put (cs:=#[.string x103000_1,.slice none 0 0,.slice none 0 0,.slice none 0 0,.slice none 0 0]) ?_ 0 _ rfl;(with_reducible repeat(first|refine qj ?_ _|refine qk ?_|refine qz ?_ _));exact BK102.out) Try.underlying77 rfl (by kernel_rfl)) rfl ?_
    exact⟨_,_,_,_,by first|rfl|(simp[*,zv,zk] <;> rfl),(by first|exact Kd.V_nil _ _ _ _ _|exact Kd.V_mono (Kd.R_V (by first|exact Kd.R_nil _ _ _ 0 _|exact Kd.R_nil _ _ _ _ _|exact Kd.N_nil _ _ _ _ _|exact Kd.V_nil _ _ _ _ _|exact Kd.Q_nil _ _ _ _ _|exact Kd.S_nil _ _ _ _ _)) (fun k_ hk=>by first|exact⟨(.inr (hk.1)),hk.2⟩|exact(.inr (hk)))),(by first|exact Kd.V_nil _ _ _ _ _|exact Kd.V_mono (Kd.R_V (by first|exact Kd.R_nil _ _ _ 0 _|exact Kd.R_nil _ _ _ _ _|exact Kd.N_nil _ _ _ _ _|exact Kd.V_nil _ _ _ _ _|exact Kd.Q_nil _ _ _ _ _|exact Kd.S_nil _ _ _ _ _)) (fun k_ hk=>by first|exact⟨(.inr (hk.1)),hk.2⟩|exact(.inr (hk)))),(by first|exact Kd.V_nil _ _ _ _ _|exact Kd.V_mono (Kd.R_V (by first|exact Kd.R_nil _ _ _ 0 _|exact Kd.R_nil _ _ _ _ _|exact Kd.N_nil _ _ _ _ _|exact Kd.V_nil _ _ _ _ _|exact Kd.Q_nil _ _ _ _ _|exact Kd.S_nil _ _ _ _ _)) (fun k_ hk=>by first|exact⟨(.inr (hk.1)),hk.2⟩|exact(.inr (hk)))),(by first|exact Kd.V_nil _ _ _ _ _|exact Kd.V_mono (Kd.R_V (by first|exact Kd.R_nil _ _ _ 0 _|exact Kd.R_nil _ _ _ _ _|exact Kd.N_nil _ _ _ _ _|exact Kd.V_nil _ _ _ _ _|exact Kd.Q_nil _ _ _ _ _|exact Kd.S_nil _ _ _ _ _)) (fun k_ hk=>by first|exact⟨(.inr (hk.1)),hk.2⟩|exact(.inr (hk)))),by repeat(first|(with_reducible first|exact HB.out|apply O|apply U|apply L|refine qq ?_ GE101.out|refine qq ?_ GE102.out)|exact HB.out)⟩
def qvj.l0:Nat→Int→List Int→Int→Int→Option (Bool)
 | 0,_,_,_,_=>none
 | k + 1,x1,x8,x9,x10=>if x10 < x9 then(if 0≤x10 then(if x10 < (x8.length:Int) then(if (rd x8 x10)=x1 then(some true) else(qvj.l0 k x1 x8 x9 (wrap64 (x10 + 1)))) else(none)) else(none)) else(some false)
def qvj.f (k:Nat) (a0_0:ByteArray) (l0_1:List Int) (l0_2:List ByteArray) (l0_3:List ByteArray) (l0_4:List Int) (a1:Int):Option (Bool):=qvj.l0 k a1 l0_4 (l0_4.length:Int) 0
theorem qvj.calls (k:Nat) (a0_0:ByteArray) (A0_1:Option Addr) (c0_1:Nat) (l0_1:List Int) (A0_2:Option Addr) (c0_2:Nat) (l0_2:List ByteArray) (A0_3:Option Addr) (c0_3:Nat) (l0_3:List ByteArray) (A0_4:Option Addr) (c0_4:Nat) (l0_4:List Int) (a1:Int) (r:Bool) (w:World) (hr0_1:Kd.C (Kd.int .u8) w A0_1 l0_1.length l0_1) (hc0_1:l0_1.length≤c0_1) (hr0_2:Kd.C Kd.string w A0_2 l0_2.length l0_2) (hc0_2:l0_2.length≤c0_2) (hr0_3:Kd.C Kd.string w A0_3 l0_3.length l0_3) (hc0_3:l0_3.length≤c0_3) (hr0_4:Kd.C (Kd.int .i64) w A0_4 l0_4.length l0_4) (hc0_4:l0_4.length≤c0_4) (h:qvj.f k a0_0 l0_1 l0_2 l0_3 l0_4 a1=some r) :
  Calls Try.prog 60 #[.agg #[.string a0_0,.slice A0_1 l0_1.length c0_1,.slice A0_2 l0_2.length c0_2,.slice A0_3 l0_3.length c0_3,.slice A0_4 l0_4.length c0_4],.int .i64 a1] w fun e w'=>e=.returned (.bool r)∧Below w.heap.size w w':=by
 have hu77:=Try.underlying77
 have HR0_1:=X.mk hr0_1
 have HC0_1:=X.mk hc0_1
 clear hr0_1 hc0_1
 have HR0_2:=X.mk hr0_2
 have HC0_2:=X.mk hc0_2
 clear hr0_2 hc0_2
 have HR0_3:=X.mk hr0_3
 have HC0_3:=X.mk hc0_3
 clear hr0_3 hc0_3
 have HR0_4:=X.mk hr0_4
 have HC0_4:=X.mk hc0_4
 clear hr0_4 hc0_4
 have HB:=X.mk (Below.refl w.heap.size w)
 have H:(qvj.l0 k a1 l0_4 (l0_4.length:Int) 0)=some r:=h
 clear h
 have H':=X.mk H
 clear H
 go_enter Try.func60,Try.ntmps60
 go_wp2_with (first|((with_reducible refine gate_dst (N:=2) rfl ?_);refine box_event ?hg (N:=2) ?hd (cs:=#[.string a0_0,.slice A0_1 l0_1.length c0_1,.slice A0_2 l0_2.length c0_2,.slice A0_3 l0_3.length c0_3,.slice A0_4 l0_4.length c0_4]) (t:=77) ?hr ?_;(case hd=>rfl);(case hg=>rfl);(case hr=>first|(go_simp;done)|(go_simp;rfl));intro gb101 hg w3 hbox hb;have BK101:=X.mk (hbox);have GW101:=X.mk ((by rw[hg];exact(qx (by solve_by_elim only[HB.out,O,U,L])):w.heap.size≤gb101));have GE101:=X.mk ((by rw[hg];exact(qx (by solve_by_elim only[HB.out,O,U,L])):w.heap.size≤gb101));replace HB:=X.mk (qw (by solve_by_elim only[HB.out,O,U,L]) hb);clear hb hbox hg;have hcz4_0:w3.cell? ⟨gb101,0,none⟩ = some (.string a0_0):=(I BK101.out 0).trans rfl;have hcz4_1:w3.cell? ⟨gb101,1,none⟩ = some (.slice A0_1 l0_1.length c0_1):=(I BK101.out 1).trans rfl;have hcz4_2:w3.cell? ⟨gb101,2,none⟩ = some (.slice A0_2 l0_2.length c0_2):=(I BK101.out 2).trans rfl;have hcz4_3:w3.cell? ⟨gb101,3,none⟩ = some (.slice A0_3 l0_3.length c0_3):=(I BK101.out 3).trans rfl;have hcz4_4:w3.cell? ⟨gb101,4,none⟩ = some (.slice A0_4 l0_4.length c0_4):=(I BK101.out 4).trans rfl;have hfz4_0:=J BK101.out 0;have hfz4_1:=J BK101.out 1;have hfz4_2:=J BK101.out 2;have hfz4_3:=J BK101.out 3;have hfz4_4:=J BK101.out 4))
 go_loopg [10] k (fun kq v10 w'=>∃ (x10_1:Int),v10=.int .i64 x10_1∧X (qvj.l0 kq a1 l0_4 (l0_4.length:Int) x10_1=some r)∧X (kq≤k)∧X (w'.heap[gb101]? = some (.cells #[.string a0_0,(.slice A0_1 l0_1.length c0_1),(.slice A0_2 l0_2.length c0_2),(.slice A0_3 l0_3.length c0_3),(.slice A0_4 l0_4.length c0_4)] 77 (0,0)))∧X (Below w.heap.size w w'))
 case atStart=>exact⟨(0),(by first|rfl|(simp;done)|(simp[*];done)),H',⟨Nat.le_refl _⟩,⟨by(with_reducible repeat(first|refine qj ?_ _|refine qk ?_|refine qz ?_ _));exact BK101.out⟩,⟨by repeat(first|(with_reducible first|exact HB.out|apply O|apply U|apply L|refine qq ?_ GE101.out)|exact HB.out)⟩⟩
 case round =>
  clear H'
  try clear p2
  try clear hcz4_0
  try clear hcz4_1
  try clear hcz4_2
  try clear hcz4_3
  try clear hcz4_4
  try clear hfz4_0
  try clear hfz4_1
  try clear hfz4_2
  try clear hfz4_3
  try clear hfz4_4
  obtain⟨x10_1,rfl,HA,HK1,BK101,HB⟩:=hrel
  cases gk with
  | zero=>exact absurd HA.out (by simp[qvj.l0])
  | succ k1 =>
   have H:=HA.out
   clear HA
   simp only[qvj.l0] at H
   by_cases c5:x10_1 < (l0_4.length:Int)
   ·rw[if_pos c5] at H
    have c5b0:decide (x10_1 < (l0_4.length:Int))=true:=decide_eq_true c5
    clear c5
    by_cases c6 : 0≤x10_1
    ·rw[if_pos c6] at H
     have c6b0:decide (0≤x10_1)=true:=decide_eq_true c6
     clear c6
     by_cases c7:x10_1 < (l0_4.length:Int)
     ·rw[if_pos c7] at H
      have c7b0:decide (x10_1 < (l0_4.length:Int))=true:=decide_eq_true c7
      clear c7
      by_cases c8:(rd l0_4 x10_1)=a1
      ·rw[if_pos c8] at H
       have c8b0:((rd l0_4 x10_1) == a1)=true:=beq_iff_eq.mpr c8
       have c8b1:((rd l0_4 x10_1) != a1)=false:=bne_eq_false_iff_eq.mpr c8
       clear c8
       obtain rfl:=Option.some.inj H
       have p102 : 0≤(x10_1:Int):=of_decide_eq_true (by assumption)
       have q102:x10_1 < (l0_4.length:Int):=of_decide_eq_true (by assumption)
       obtain⟨ad102,e102,hx102_0⟩:=Kd.at_int HR0_4.out x10_1 p102 q102
       cases e102
       replace hx102_0:=(HB.out.cell (World.block_lt_of_cell? w _ hx102_0)).trans hx102_0
       replace p102:=eq_true p102
       replace q102:=eq_true q102
       go_wp2
       go_ret
       exact⟨by first|rfl|(simp[*,zv,zk] <;> rfl),by repeat(first|(with_reducible first|exact HB.out|apply O|apply U|apply L|refine qq ?_ GE101.out)|exact HB.out)⟩
      ·rw[if_neg c8] at H
       have c8b0:((rd l0_4 x10_1) == a1)=false:=beq_eq_false_iff_ne.mpr c8
       have c8b1:((rd l0_4 x10_1) != a1)=true:=bne_iff_ne.mpr c8
       have H':=X.mk H
       clear H
       have p102 : 0≤(x10_1:Int):=of_decide_eq_true (by assumption)
       have q102:x10_1 < (l0_4.length:Int):=of_decide_eq_true (by assumption)
       obtain⟨ad102,e102,hx102_0⟩:=Kd.at_int HR0_4.out x10_1 p102 q102
       cases e102
       replace hx102_0:=(HB.out.cell (World.block_lt_of_cell? w _ hx102_0)).trans hx102_0
       replace p102:=eq_true p102
       replace q102:=eq_true q102
       go_wp2
       go_roundg k1
       case measure=>have:=HK1.out;omega
       case rel=>exact⟨(wrap64 (x10_1 + 1)),(by first|rfl|(simp;done)|(simp[*];done)),H',⟨by have:=HK1.out;omega⟩,⟨by(with_reducible repeat(first|refine qj ?_ _|refine qk ?_|refine qz ?_ _));exact BK101.out⟩,⟨by repeat(first|(with_reducible first|exact HB.out|apply O|apply U|apply L|refine qq ?_ GE101.out)|exact HB.out)⟩⟩
     ·rw[if_neg c7] at H
      exact absurd H (by simp)
    ·rw[if_neg c6] at H
     exact absurd H (by simp)
   ·rw[if_neg c5] at H
    have c5b0:decide (x10_1 < (l0_4.length:Int))=false:=decide_eq_false c5
    clear c5
    obtain rfl:=Option.some.inj H
    go_wp2
    go_ret
    exact⟨by first|rfl|(simp[*,zv,zk] <;> rfl),by repeat(first|(with_reducible first|exact HB.out|apply O|apply U|apply L|refine qq ?_ GE101.out)|exact HB.out)⟩
def qww.l0:Nat→List Int→Int→List Int→Int→Option (List Int)
 | 0,_,_,_,_=>none
 | k + 1,x0,x1,x4,x5=>if x5 < 4 then(if 0≤x5 then(if x5 < (x0.length:Int) then(if x5 < (x4.length:Int) then(if 0≤(Int.tmod (wrap64 (x5 + 1)) 4) then(if (Int.tmod (wrap64 (x5 + 1)) 4) < (x0.length:Int) then(qww.l0 k (x0.set (x5:Int).toNat (Int.tmod (wrap64 ((wrap64 ((wrap64 ((wrap64 ((rd x0 x5) * (rd x4 x5))) + x1)) + 1)) + (rd x0 (Int.tmod (wrap64 (x5 + 1)) 4)))) 2147483579)) x1 x4 (wrap64 (x5 + 1))) else(none)) else(none)) else(none)) else(none)) else(none)) else(some x0)
def qww.f (k:Nat) (l0:List Int) (a1:Int):Option (List Int):=qww.l0 k l0 a1 (([1103515245,69069,1664525,22695477]:List Int)) 0
def qww.T4:Bool × List (List Nat × List Nat):=(true,[([],[]),([],[]),([],[]),([],[]),([2,3],[2,3]),([4],[4]),([],[]),([],[]),([6,7],[6,7]),([8],[8]),([5,9],[5,9]),([],[]),([10,11],[10,11]),([12],[12]),([],[]),([],[]),([15],[15]),([16],[16]),([14,17],[14,17]),([18],[18]),([13,19],[13,19]),([20],[20]),([0,1,0,1,2,3,4,5,6,7,8,9,10,11,12,13,14,15,16,17,18,19,20,21],[0,1]),([22,21,0,1,2,3,4,5,6,7,8,9,10,11,12,13,14,15,16,17,18,19,20,21],[21,22])])
def qww.B4:List Nat:=[0,0,0,0,12,28,0,0,192,448,1020,0,4092,8188,0,0,32768,98304,245760,507904,1048572,2097148,4194303,8388607]
theorem qww.tab4:rtab .any (opsOf Try.f83 4)=qww.T4:=by kernel_rfl
theorem qww.bits4:waitsOk qww.T4.2 qww.B4=true:=by kernel_rfl
theorem qww.calls (k:Nat) (P0_:Nat→Prop) (u9000_:Value) (l0:List Int) (a1:Int) (r:List Int) (w0 w:World) (hB:Below w0.heap.size w0 w) (ho0:Kd.R (Kd.int .i64) 3 w w0.heap.size P0_ u9000_ l0) (h:qww.f k l0 a1=some r) :
  Calls Try.prog 83 #[u9000_,.int .i64 a1] w fun e w'=>e=.returned (.tuple #[])∧Kd.R (Kd.int .i64) 3 w' w0.heap.size (fun k_=>(P0_ k_∨w.heap.size≤k_)) u9000_ r∧Below w0.heap.size w0 w'∧jz w w' (fun k_=>P0_ k_):=by
 have HO0:=X.mk (show Kd.R (Kd.int .i64) 3 w w0.heap.size (fun k_=>(P0_ k_∨w.heap.size≤k_)) u9000_ l0 from Kd.R_mono ho0 (fun k_ hk=>(.inl hk)))
 have HK:=X.mk (jz.refl w (fun k_=>P0_ k_))
 have HW0:=X.mk hB.size
 have HB:=X.mk hB
 clear hB
 have H:(qww.l0 k l0 a1 (([1103515245,69069,1664525,22695477]:List Int)) 0)=some r:=h
 clear h
 obtain⟨y101,hy101⟩ : ∃ y_:List Int,y_=(([1103515245,69069,1664525,22695477]:List Int)):=⟨_,rfl⟩
 replace H:(qww.l0 k l0 a1 y101 0)=some r:=by first|(rw[hy101];with_reducible exact H)|(have H2_:=(Option.bind_some _ _).symm.trans H;rw[hy101];with_reducible exact H2_)|(have H2_:=(Option.bind_some _ _).symm.trans H;with_reducible exact H2_)|with_reducible exact H|(rw[hy101];exact H)|exact H
 have Ny101:=X.mk hy101
 clear hy101
 have H':=X.mk H
 clear H
 go_enter Try.func83,Try.ntmps83
 go_wp2_with (first|((with_reducible refine gate_dst (N:=6) rfl ?_);refine Kd.R_lit (Kd.int .i64) _ 3 ?hg (N:=6) ?hd (xs:=([1103515245,69069,1664525,22695477]:List Int)) (inner:=[.int .i64 1103515245,.int .i64 69069,.int .i64 1664525,.int .i64 22695477]) (ok:=fun _=>True) (okp:=fun _=>True) ?hr ?hp (fun _ hk=>hk) trivial (Below.refl _ _) (Nat.le_refl _) (by simp) ?_;(case hd=>rfl);(case hg=>rfl);(case hr=>first|(go_simp;done)|(go_simp;rfl));(case hp=>exact(Reps.one (show Kd.M (Kd.int .i64) _ _ _ 1103515245 [.int .i64 1103515245] from rfl) (Reps.one (show Kd.M (Kd.int .i64) _ _ _ 69069 [.int .i64 69069] from rfl) (Reps.one (show Kd.M (Kd.int .i64) _ _ _ 1664525 [.int .i64 1664525] from rfl) (Reps.one (show Kd.M (Kd.int .i64) _ _ _ 22695477 [.int .i64 22695477] from rfl) (Reps.none _ _))))));intro v102 w3 ho4 hb hg_ hnew_;clear hg_ hnew_;(first|rw[← Ny101.out] at ho4|(simp only[Int.reduceToNat] at ho4;rw[← Ny101.out] at ho4));have HO103:=X.mk (Kd.R_lower (Kd.R_new' (Kd.R_newM (M:=fun k_=>(P0_ k_∨w.heap.size≤k_)) ho4 (by first|exact HK.out.1|exact(show jz w _ (fun k_=>P0_ k_) from by repeat(first|(with_reducible first|exact HK.out|apply jz.alloc|apply jz.drewN|apply jz.drew)|exact HK.out)).1) (fun k_ h_=>.inr h_)) (Kd.R_lt (by solve_by_elim only[HO0.out,Kd.zz,Kd.zq,Kd.zj]))) (qx (by solve_by_elim only[HB.out,O,U,L])));replace HO0:=X.mk (Kd.R_elder' (by solve_by_elim only[HO0.out,Kd.zz,Kd.zq,Kd.zj]) (Kd.R_base ho4) hb);replace HK:=X.mk (jz.below (S:=(fun k_=>P0_ k_)) (by solve_by_elim only[HK.out,jz.alloc,jz.drewN,jz.drew]) hb);replace HB:=X.mk (qw (by solve_by_elim only[HB.out,O,U,L]) hb);clear hb ho4))
 go_loopg [5] k (fun kq v5 w'=>∃ (x0_1:List Int) (x5_1:Int),v5=.int .i64 x5_1∧X (qww.l0 kq x0_1 a1 y101 x5_1=some r)∧X (kq≤k)∧X (Kd.R (Kd.int .i64) 3 w' w0.heap.size (fun k_=>(P0_ k_∨w.heap.size≤k_)∧some k_≠(v102:Value).ownBlock) u9000_ x0_1)∧X (Kd.R (Kd.int .i64) 3 w' w0.heap.size (fun k_=>(P0_ k_∨w.heap.size≤k_)∧some k_≠(u9000_:Value).ownBlock) v102 y101)∧X (jz w w' (fun k_=>P0_ k_))∧X (Below w0.heap.size w0 w'))
 case atStart=>exact⟨(l0),(0),(by first|rfl|(simp;done)|(simp[*];done)),H',⟨Nat.le_refl _⟩,⟨by(with_reducible repeat(first|apply Kd.zz|apply Kd.zq|apply Kd.zj));exact HO0.out⟩,⟨by(with_reducible repeat(first|apply Kd.zz|apply Kd.zq|apply Kd.zj));exact Kd.R_mono HO103.out (fun _ hk=>⟨hk.1.1,hk.2⟩)⟩,⟨by repeat(first|(with_reducible first|exact HK.out|apply jz.alloc|apply jz.drewN|apply jz.drew)|exact HK.out)⟩,⟨by repeat(first|(with_reducible first|exact HB.out|apply O|apply U|apply L)|exact HB.out)⟩⟩
 case round =>
  clear H'
  try clear p2
  obtain⟨x0_1,x5_1,rfl,HA,HK1,HO_0,HO_4,HK,HB⟩:=hrel
  cases gk with
  | zero=>exact absurd HA.out (by simp[qww.l0])
  | succ k1 =>
   have H:=HA.out
   clear HA
   simp only[qww.l0] at H
   by_cases c5:x5_1 < 4
   ·rw[if_pos c5] at H
    have c5b0:decide (x5_1 < 4)=true:=decide_eq_true c5
    clear c5
    by_cases c6 : 0≤x5_1
    ·rw[if_pos c6] at H
     have c6b0:decide (0≤x5_1)=true:=decide_eq_true c6
     clear c6
     by_cases c7:x5_1 < (x0_1.length:Int)
     ·rw[if_pos c7] at H
      have c7b0:decide (x5_1 < (x0_1.length:Int))=true:=decide_eq_true c7
      clear c7
      by_cases c8:x5_1 < (y101.length:Int)
      ·rw[if_pos c8] at H
       have c8b0:decide (x5_1 < (y101.length:Int))=true:=decide_eq_true c8
       clear c8
       obtain⟨ji9,hji9⟩ : ∃ j_:Int,(Int.tmod (wrap64 (x5_1 + 1)) 4)=j_:=⟨_,rfl⟩
       replace H:(if 0≤(ji9) then(if (ji9) < (x0_1.length:Int) then(qww.l0 k1 (x0_1.set (x5_1:Int).toNat (Int.tmod (wrap64 ((wrap64 ((wrap64 ((wrap64 ((rd x0_1 x5_1) * (rd y101 x5_1))) + a1)) + 1)) + (rd x0_1 (ji9)))) 2147483579)) a1 y101 (wrap64 (x5_1 + 1))) else(none)) else(none))=some r:=by first|(rw[hji9] at H;exact H)|(simp only[hji9] at H ⊢;exact H)
       by_cases c10 : 0≤(ji9)
       ·rw[if_pos c10] at H
        have c10b0:decide (0≤(ji9))=true:=decide_eq_true c10
        clear c10
        by_cases c11:(ji9) < (x0_1.length:Int)
        ·rw[if_pos c11] at H
         have c11b0:decide ((ji9) < (x0_1.length:Int))=true:=decide_eq_true c11
         clear c11
         obtain⟨y107,hy107⟩ : ∃ y_:List Int,y_=(x0_1.set (x5_1:Int).toNat (Int.tmod (wrap64 ((wrap64 ((wrap64 ((wrap64 ((rd x0_1 x5_1) * (rd y101 x5_1))) + a1)) + 1)) + (rd x0_1 (ji9)))) 2147483579)):=⟨_,rfl⟩
         replace H:(qww.l0 k1 y107 a1 y101 (wrap64 (x5_1 + 1)))=some r:=by first|(rw[hy107];with_reducible exact H)|(have H2_:=(Option.bind_some _ _).symm.trans H;rw[hy107];with_reducible exact H2_)|(have H2_:=(Option.bind_some _ _).symm.trans H;with_reducible exact H2_)|with_reducible exact H|(rw[hy107];exact H)|exact H
         have Ny107:=X.mk hy107
         clear hy107
         have H':=X.mk H
         clear H
         try go_wp2
         replace HO_0:=X.mk (Kd.zj HO_0.out)
         replace HO_4:=X.mk (Kd.zj HO_4.out)
         replace HK:=X.mk (jz.drew HK.out)
         replace HB:=X.mk (L HB.out)
         obtain⟨Ao14,co14,eo14⟩:=Kd.R_slice HO_0.out
         (first|subst eo14|(injection eo14 with f1_ f2_ f3_;have f4_:=f1_.symm;have f5_:=f3_.symm;clear f1_ f2_ f3_;subst f4_;subst f5_))
         have p104 : 0≤(x5_1:Int):=of_decide_eq_true (by assumption)
         have q104:x5_1 < (x0_1.length:Int):=of_decide_eq_true (by assumption)
         obtain⟨ad104,e104,hx104_0⟩:=Kd.at_int (Kd.R_reads' HO_0.out).2.2 x5_1 p104 q104
         cases e104
         replace p104:=eq_true p104
         replace q104:=eq_true q104
         obtain⟨Ao15,co15,eo15⟩:=Kd.R_slice HO_4.out
         (first|subst eo15|(injection eo15 with f1_ f2_ f3_;have f4_:=f1_.symm;have f5_:=f3_.symm;clear f1_ f2_ f3_;subst f4_;subst f5_))
         have p105 : 0≤(x5_1:Int):=of_decide_eq_true (by assumption)
         have q105:x5_1 < (y101.length:Int):=of_decide_eq_true (by assumption)
         obtain⟨ad105,e105,hx105_0⟩:=Kd.at_int (Kd.R_reads' HO_4.out).2.2 x5_1 p105 q105
         cases e105
         replace p105:=eq_true p105
         replace q105:=eq_true q105
         have p106 : 0≤((ji9):Int):=of_decide_eq_true (by assumption)
         have q106:(ji9) < (x0_1.length:Int):=of_decide_eq_true (by assumption)
         obtain⟨ad106,e106,hx106_0⟩:=Kd.at_int (Kd.R_reads' HO_0.out).2.2 (ji9) p106 q106
         obtain rfl:ad104=ad106:=(by injection e106)
         replace p106:=eq_true p106
         replace q106:=eq_true q106
         have p12 : 0≤(x5_1:Int):=of_decide_eq_true (by assumption)
         have q12:(x5_1:Int) < ((x0_1.length:Int):Int):=of_decide_eq_true (by assumption)
         obtain⟨go12,co12,eo12,gb12,gl12,cl12,HG12⟩:=Kd.R_form HO_0.out (by omega)
         (first|cases eo12|(injection eo12 with ea_ en_ ec_;(first|subst ea_|(injection ea_ with ea_;subst ea_));subst ec_;clear en_))
         have GB12:=X.mk gb12
         have GG12:=X.mk HG12
         clear gb12 gl12 HG12
         have HMgo12:=X.mk (show(P0_ go12∨w.heap.size≤go12) from(HO_0.out.1 _ rfl).1)
         (first|simp only[add_plain] at hx104_0|skip)
         (first|simp only[add_plain] at hx106_0|skip)
         obtain⟨hx12_0,hf12_0⟩:=Kd.R_celln 0 HO_0.out (x5_1:Int) p12 q12
         replace p12:=eq_true p12
         replace q12:=eq_true q12
         have HP16:=Kd.R_putn HO_0.out (x5_1:Int) (Int.tmod (wrap64 ((wrap64 ((wrap64 ((wrap64 ((rd x0_1 x5_1) * (rd y101 x5_1))) + a1)) + 1)) + (rd x0_1 (ji9)))) 2147483579)
         rw[← Ny107.out] at HP16
         have HQ16:=X.mk HP16
         clear HP16
         refine start_ (n:=24) (S:=fun w'=>w'.cell? ⟨go12,(x5_1).toNat,none⟩ = some (.int .i64 (rd x0_1 x5_1))∧w'.cell? (ad105.add (x5_1).toNat)=some (.int .i64 (rd y101 x5_1))∧w'.cell? ⟨go12,((ji9)).toNat,none⟩ = some (.int .i64 (rd x0_1 (ji9)))) (ds:=[23]) #[Y,Y,Y,Y,Y,Y,Y,Y,Y,Y,Y,Y,Y,Y,Y,Y,Y,Y,Y,Y,Y,Y,Y,Y] (by kernel_rfl) rfl rfl ⟨hx104_0,hx105_0,hx106_0⟩ (fun hHeld=>?_);refine with_tabW qww.tab4 qww.bits4 (fun HT_ HW_=>?_)
         generalize wr.drew=w13 at HO_0 HO_4 HK HB GG12 HQ16 hf12_0 hx104_0 hx105_0 hx106_0 hx12_0 hHeld ⊢
         refine pure_ (i:=0) (N:=some 11) (v:=?_) (a':=?_) #[Z,Y,Y,Y,Y,Y,Y,Y,Y,Y,Y,Y,Y,Y,Y,Y,Y,Y,Y,Y,Y,Y,Y,Y] rfl rfl (any_of HT_.out (by kernel_rfl)) (fun _ _ _ h=>h) (Or.inl ⟨by rfl,?_⟩) ?_ ?_
         rotate_left
         ·intro w'
          go_simp
          with_reducible rfl
         rotate_left
         ·simp only[Act.put,jq5,jq6,jq7,i64_w,i32_w]
          rfl
         refine pure_ (i:=1) (N:=some 12) (v:=?_) (a':=?_) #[Z,Z,Y,Y,Y,Y,Y,Y,Y,Y,Y,Y,Y,Y,Y,Y,Y,Y,Y,Y,Y,Y,Y,Y] rfl rfl (any_of HT_.out (by kernel_rfl)) (fun _ _ _ h=>h) (Or.inl ⟨by rfl,?_⟩) ?_ ?_
         rotate_left
         ·intro w'
          go_simp
          with_reducible rfl
         rotate_left
         ·simp only[Act.put,jq5,jq6,jq7,i64_w,i32_w]
          rfl
         refine pure_ (i:=2) (N:=some 13) (v:=?_) (a':=?_) #[Z,Z,Z,Y,Y,Y,Y,Y,Y,Y,Y,Y,Y,Y,Y,Y,Y,Y,Y,Y,Y,Y,Y,Y] rfl rfl (any_of HT_.out (by kernel_rfl)) (fun _ _ _ h=>h) (Or.inl ⟨by rfl,?_⟩) ?_ ?_
         rotate_left
         ·intro w'
          go_simp
          with_reducible rfl
         rotate_left
         ·simp only[Act.put,jq5,jq6,jq7,i64_w,i32_w]
          rfl
         refine pure_ (i:=3) (N:=some 14) (v:=?_) (a':=?_) #[Z,Z,Z,Z,Y,Y,Y,Y,Y,Y,Y,Y,Y,Y,Y,Y,Y,Y,Y,Y,Y,Y,Y,Y] rfl rfl (any_of HT_.out (by kernel_rfl)) (fun _ _ _ h=>h) (Or.inl ⟨by rfl,?_⟩) ?_ ?_
         rotate_left
         ·intro w'
          go_simp
          with_reducible rfl
         rotate_left
         ·simp only[Act.put,jq5,jq6,jq7,i64_w,i32_w]
          rfl
         refine pure_ (i:=4) (N:=some 15) (v:=?_) (a':=?_) #[Z,Z,Z,Z,Z,Y,Y,Y,Y,Y,Y,Y,Y,Y,Y,Y,Y,Y,Y,Y,Y,Y,Y,Y] rfl rfl (any_of HT_.out (by kernel_rfl)) (fun _ _ _ h=>h) (Or.inl ⟨by rfl,?_⟩) ?_ ?_
         rotate_left
         ·intro w'
          go_simp
          with_reducible rfl
         rotate_left
         ·simp only[Act.put,jq5,jq6,jq7,i64_w,i32_w]
          rfl
         refine pure_ (i:=6) (N:=some 17) (v:=?_) (a':=?_) #[Z,Z,Z,Z,Z,Y,Z,Y,Y,Y,Y,Y,Y,Y,Y,Y,Y,Y,Y,Y,Y,Y,Y,Y] rfl rfl (any_of HT_.out (by kernel_rfl)) (fun _ _ _ h=>h) (Or.inl ⟨by rfl,?_⟩) ?_ ?_
         rotate_left
         ·intro w'
          go_simp
          with_reducible rfl
         rotate_left
         ·simp only[Act.put,jq5,jq6,jq7,i64_w,i32_w]
          rfl
         refine pure_ (i:=7) (N:=some 18) (v:=?_) (a':=?_) #[Z,Z,Z,Z,Z,Y,Z,Z,Y,Y,Y,Y,Y,Y,Y,Y,Y,Y,Y,Y,Y,Y,Y,Y] rfl rfl (any_of HT_.out (by kernel_rfl)) (fun _ _ _ h=>h) (Or.inl ⟨by rfl,?_⟩) ?_ ?_
         rotate_left
         ·intro w'
          go_simp
          with_reducible rfl
         rotate_left
         ·simp only[Act.put,jq5,jq6,jq7,i64_w,i32_w]
          rfl
         refine pure_ (i:=8) (N:=some 19) (v:=?_) (a':=?_) #[Z,Z,Z,Z,Z,Y,Z,Z,Z,Y,Y,Y,Y,Y,Y,Y,Y,Y,Y,Y,Y,Y,Y,Y] rfl rfl (any_of HT_.out (by kernel_rfl)) (fun _ _ _ h=>h) (Or.inl ⟨by rfl,?_⟩) ?_ ?_
         rotate_left
         ·intro w'
          go_simp
          with_reducible rfl
         rotate_left
         ·simp only[Act.put,jq5,jq6,jq7,i64_w,i32_w]
          rfl
         refine pure_ (i:=11) (N:=some 22) (v:=?_) (a':=?_) #[Z,Z,Z,Z,Z,Y,Z,Z,Z,Y,Y,Z,Y,Y,Y,Y,Y,Y,Y,Y,Y,Y,Y,Y] rfl rfl (any_of HT_.out (by kernel_rfl)) (fun _ _ _ h=>h) (Or.inl ⟨by rfl,?_⟩) ?_ ?_
         rotate_left
         ·intro w'
          go_simp
          with_reducible rfl
         rotate_left
         ·simp only[Act.put,jq5,jq6,jq7,i64_w,i32_w]
          rfl
         refine pure_ (i:=14) (N:=some 25) (v:=?_) (a':=?_) #[Z,Z,Z,Z,Z,Y,Z,Z,Z,Y,Y,Z,Y,Y,Z,Y,Y,Y,Y,Y,Y,Y,Y,Y] rfl rfl (any_of HT_.out (by kernel_rfl)) (fun _ _ _ h=>h) (Or.inl ⟨by rfl,?_⟩) ?_ ?_
         rotate_left
         ·intro w'
          go_simp
          with_reducible rfl
         rotate_left
         ·simp only[Act.put,jq5,jq6,jq7,i64_w,i32_w]
          rfl
         refine pure_ (i:=15) (N:=some 26) (v:=?_) (a':=?_) #[Z,Z,Z,Z,Z,Y,Z,Z,Z,Y,Y,Z,Y,Y,Z,Z,Y,Y,Y,Y,Y,Y,Y,Y] rfl rfl (any_of HT_.out (by kernel_rfl)) (fun _ _ _ h=>h) (Or.inl ⟨by rfl,?_⟩) ?_ ?_
         rotate_left
         ·intro w'
          go_simp
          with_reducible rfl
         rotate_left
         ·simp only[Act.put,jq5,jq6,jq7,i64_w,i32_w]
          rfl
         refine pure_ (i:=16) (N:=some 27) (v:=?_) (a':=?_) #[Z,Z,Z,Z,Z,Y,Z,Z,Z,Y,Y,Z,Y,Y,Z,Z,Z,Y,Y,Y,Y,Y,Y,Y] rfl rfl (any_of HT_.out (by kernel_rfl)) (fun _ _ _ h=>h) (Or.inl ⟨by rfl,?_⟩) ?_ ?_
         rotate_left
         ·intro w'
          go_simp
          with_reducible rfl
         rotate_left
         ·simp only[Act.put,jq5,jq6,jq7,i64_w,i32_w]
          rfl
         refine pure_ (i:=17) (N:=some 28) (v:=?_) (a':=?_) #[Z,Z,Z,Z,Z,Y,Z,Z,Z,Y,Y,Z,Y,Y,Z,Z,Z,Z,Y,Y,Y,Y,Y,Y] rfl rfl (any_of HT_.out (by kernel_rfl)) (fun _ _ _ h=>h) (Or.inl ⟨by rfl,?_⟩) ?_ ?_
         rotate_left
         ·intro w'
          go_simp
          with_reducible rfl
         rotate_left
         ·simp only[Act.put,jq5,jq6,jq7,i64_w,i32_w]
          rfl
         refine pure_ (i:=18) (N:=some 29) (v:=?_) (a':=?_) #[Z,Z,Z,Z,Z,Y,Z,Z,Z,Y,Y,Z,Y,Y,Z,Z,Z,Z,Z,Y,Y,Y,Y,Y] rfl rfl (any_of HT_.out (by kernel_rfl)) (fun _ _ _ h=>h) (Or.inl ⟨by rfl,?_⟩) ?_ ?_
         rotate_left
         ·intro w'
          go_simp
          with_reducible rfl
         rotate_left
         ·simp only[Act.put,jq5,jq6,jq7,i64_w,i32_w]
          rfl
         refine take_ (i:=5) (N:=some 16) (v:=?_) (a':=?_) #[Z,Z,Z,Z,Z,Z,Z,Z,Z,Y,Y,Z,Y,Y,Z,Z,Z,Z,Z,Y,Y,Y,Y,Y] rfl rfl (take_ofW HT_.out HW_.out (by kernel_rfl)) (fun _ _ _ h=>h) (Or.inl ⟨by rfl,?_⟩) hHeld ?_ ?_
         rotate_left
         ·rintro w' ⟨s0,s1,s2⟩
          go_simp
          with_reducible rfl
         rotate_left
         ·simp only[Act.put,jq5,jq6,jq7,i64_w,i32_w]
          rfl
         refine take_ (i:=9) (N:=some 20) (v:=?_) (a':=?_) #[Z,Z,Z,Z,Z,Z,Z,Z,Z,Z,Y,Z,Y,Y,Z,Z,Z,Z,Z,Y,Y,Y,Y,Y] rfl rfl (take_ofW HT_.out HW_.out (by kernel_rfl)) (fun _ _ _ h=>h) (Or.inl ⟨by rfl,?_⟩) hHeld ?_ ?_
         rotate_left
         ·rintro w' ⟨s0,s1,s2⟩
          go_simp
          with_reducible rfl
         rotate_left
         ·simp only[Act.put,jq5,jq6,jq7,i64_w,i32_w]
          rfl
         refine pure_ (i:=10) (N:=some 21) (v:=?_) (a':=?_) #[Z,Z,Z,Z,Z,Z,Z,Z,Z,Z,Z,Z,Y,Y,Z,Z,Z,Z,Z,Y,Y,Y,Y,Y] rfl rfl (any_of HT_.out (by kernel_rfl)) (fun _ _ _ h=>h) (Or.inl ⟨by rfl,?_⟩) ?_ ?_
         rotate_left
         ·intro w'
          go_simp
          with_reducible rfl
         rotate_left
         ·simp only[Act.put,jq5,jq6,jq7,i64_w,i32_w]
          rfl
         refine pure_ (i:=12) (N:=some 23) (v:=?_) (a':=?_) #[Z,Z,Z,Z,Z,Z,Z,Z,Z,Z,Z,Z,Z,Y,Z,Z,Z,Z,Z,Y,Y,Y,Y,Y] rfl rfl (any_of HT_.out (by kernel_rfl)) (fun _ _ _ h=>h) (Or.inl ⟨by rfl,?_⟩) ?_ ?_
         rotate_left
         ·intro w'
          go_simp
          with_reducible rfl
         rotate_left
         ·simp only[Act.put,jq5,jq6,jq7,i64_w,i32_w]
          rfl
         refine pure_ (i:=13) (N:=some 24) (v:=?_) (a':=?_) #[Z,Z,Z,Z,Z,Z,Z,Z,Z,Z,Z,Z,Z,Z,Z,Z,Z,Z,Z,Y,Y,Y,Y,Y] rfl rfl (any_of HT_.out (by kernel_rfl)) (fun _ _ _ h=>h) (Or.inl ⟨by rfl,?_⟩) ?_ ?_
         rotate_left
         ·intro w'
          go_simp
          with_reducible rfl
         rotate_left
         ·simp only[Act.put,jq5,jq6,jq7,i64_w,i32_w]
          rfl
         refine take_ (i:=19) (N:=some 30) (v:=?_) (a':=?_) #[Z,Z,Z,Z,Z,Z,Z,Z,Z,Z,Z,Z,Z,Z,Z,Z,Z,Z,Z,Z,Y,Y,Y,Y] rfl rfl (take_ofW HT_.out HW_.out (by kernel_rfl)) (fun _ _ _ h=>h) (Or.inl ⟨by rfl,?_⟩) hHeld ?_ ?_
         rotate_left
         ·rintro w' ⟨s0,s1,s2⟩
          go_simp
          with_reducible rfl
         rotate_left
         ·simp only[Act.put,jq5,jq6,jq7,i64_w,i32_w]
          rfl
         refine pure_ (i:=20) (N:=some 31) (v:=?_) (a':=?_) #[Z,Z,Z,Z,Z,Z,Z,Z,Z,Z,Z,Z,Z,Z,Z,Z,Z,Z,Z,Z,Z,Y,Y,Y] rfl rfl (any_of HT_.out (by kernel_rfl)) (fun _ _ _ h=>h) (Or.inl ⟨by rfl,?_⟩) ?_ ?_
         rotate_left
         ·intro w'
          go_simp
          with_reducible rfl
         rotate_left
         ·simp only[Act.put,jq5,jq6,jq7,i64_w,i32_w]
          rfl
         refine pure_ (i:=21) (N:=some 32) (v:=?_) (a':=?_) #[Z,Z,Z,Z,Z,Z,Z,Z,Z,Z,Z,Z,Z,Z,Z,Z,Z,Z,Z,Z,Z,Z,Y,Y] rfl rfl (any_of HT_.out (by kernel_rfl)) (fun _ _ _ h=>h) (Or.inl ⟨by rfl,?_⟩) ?_ ?_
         rotate_left
         ·intro w'
          go_simp
          with_reducible rfl
         rotate_left
         ·simp only[Act.put,jq5,jq6,jq7,i64_w,i32_w]
          rfl
         refine pure_ (i:=22) (N:=some 33) (v:=?_) (a':=?_) #[Z,Z,Z,Z,Z,Z,Z,Z,Z,Z,Z,Z,Z,Z,Z,Z,Z,Z,Z,Z,Z,Z,Z,Y] rfl rfl (any_of HT_.out (by kernel_rfl)) (fun _ _ _ h=>h) (Or.inl ⟨by rfl,?_⟩) ?_ ?_
         rotate_left
         ·intro w'
          go_simp
          with_reducible rfl
         rotate_left
         ·simp only[Act.put,jq5,jq6,jq7,i64_w,i32_w]
          rfl
         refine last_ (i:=23) (N:=none) #[Z,Z,Z,Z,Z,Z,Z,Z,Z,Z,Z,Z,Z,Z,Z,Z,Z,Z,Z,Z,Z,Z,Z,Z] rfl rfl (one_of HT_.out (by kernel_rfl)) (by decide) (fun K hK=>?_)
         refine skip_ (w1:=?_) (by rfl) rfl ?_ ?_
         rotate_left
         ·go_simp
          rfl
         refine hK.out _ _ ?_
         clear hK K
         refine done_ (done_of HT_.out (by kernel_rfl)) ?_
         try go_wp2
         go_roundg k1
         case measure=>have:=HK1.out;omega
         case rel=>exact⟨(y107),(wrap64 (x5_1 + 1)),(by first|rfl|(simp;done)|(simp[*];done)),H',⟨by have:=HK1.out;omega⟩,⟨by(with_reducible repeat(first|apply Kd.zz|apply Kd.zq|apply Kd.zj));exact HQ16.out⟩,⟨by(with_reducible repeat(first|apply Kd.zz|apply Kd.zq|apply Kd.zj));exact Kd.R_mono (Kd.R_far (p:=⟨go12,(x5_1:Int).toNat,none⟩) (Kd.R_mono HO_4.out (fun k_ hk=>(⟨hk,fun e_=>hk.2 (by rw[e_];rfl)⟩ : _∧k_≠go12))) (fun _ hk=>hk.2) (.int .i64 (Int.tmod (wrap64 ((wrap64 ((wrap64 ((wrap64 ((rd x0_1 x5_1) * (rd y101 x5_1))) + a1)) + 1)) + (rd x0_1 (ji9)))) 2147483579))) (fun _ hk=>⟨hk.1.1,hk.1.2⟩)⟩,⟨by repeat(first|(with_reducible first|exact HK.out|apply jz.alloc|apply jz.drewN|apply jz.drew|refine jz.setCell ?_ HMgo12.out _)|exact HK.out)⟩,⟨by repeat(first|(with_reducible first|exact HB.out|apply O|apply U|apply L|refine qq ?_ GB12.out)|exact HB.out)⟩⟩
        ·rw[if_neg c11] at H
         exact absurd H (by simp)
       ·rw[if_neg c10] at H
        exact absurd H (by simp)
      ·rw[if_neg c8] at H
       exact absurd H (by simp)
     ·rw[if_neg c7] at H
      exact absurd H (by simp)
    ·rw[if_neg c6] at H
     exact absurd H (by simp)
   ·rw[if_neg c5] at H
    have c5b0:decide (x5_1 < 4)=false:=decide_eq_false c5
    clear c5
    obtain rfl:=Option.some.inj H
    go_wp2
    first|go_end0|((try simp only[Exit.inBlock,Exit.then]);refine bodyPost_ret (results_none rfl _ _ _) rfl ?_)
    exact⟨by first|rfl|(simp[*,zv,zk] <;> rfl),by(with_reducible repeat(first|apply Kd.zz|apply Kd.zq|apply Kd.zj));exact Kd.R_mono HO_0.out (fun _ hk=>hk.1),by repeat(first|(with_reducible first|exact HB.out|apply O|apply U|apply L)|exact HB.out),by repeat(first|(with_reducible first|exact HK.out|apply jz.alloc|apply jz.drewN|apply jz.drew)|exact HK.out)⟩
def qwk.l0:Nat→Int→List Int→Int→Int→Option (List Int)
 | 0,_,_,_,_=>none
 | k + 1,x0,x3,x7,x8=>if x8 < x7 then(if 0≤x8 then(if x8 < (x3.length:Int) then(qwk.l0 k (wrap64 (Int.tdiv x0 256)) (x3.set (x8:Int).toNat ((Int.tmod x0 256) % 256)) x7 (wrap64 (x8 + 1))) else(none)) else(none)) else(some x3)
def qwk.f (k:Nat) (a0:Int):Option (List Int):=if 4≤281474976710656 then((some (List.replicate 4 0:List Int)).bind fun y101=>(qwk.l0 k a0 y101 (y101.length:Int) 0)) else(none)
theorem qwk.calls (k:Nat) (a0:Int) (r:List Int) (w:World) (h:qwk.f k a0=some r) :
  Calls Try.prog 84 #[.int .i64 a0] w fun e w'=>∃ v0_:Value,e=.returned (v0_)∧Kd.R (Kd.int .u8) 5 w' w.heap.size (fun _=>True) v0_ r∧Below w.heap.size w w':=by
 have HB:=X.mk (Below.refl w.heap.size w)
 unfold qwk.f at h
 have H:=h
 clear h
 by_cases c2 : 4≤281474976710656
 ·rw[if_pos c2] at H
  have c2b0:=eq_true c2
  have c2b1:decide (4≤281474976710656)=true:=decide_eq_true c2
  clear c2
  obtain⟨y101,hy101⟩ : ∃ y_:List Int,y_=(List.replicate 4 0):=⟨_,rfl⟩
  replace H:(qwk.l0 k a0 y101 (y101.length:Int) 0)=some r:=by first|(rw[hy101];with_reducible exact H)|(have H2_:=(Option.bind_some _ _).symm.trans H;rw[hy101];with_reducible exact H2_)|(have H2_:=(Option.bind_some _ _).symm.trans H;with_reducible exact H2_)|with_reducible exact H|(rw[hy101];exact H)|exact H
  have Ny101:=X.mk hy101
  clear hy101
  have H':=X.mk H
  clear H
  go_enter Try.func84,Try.ntmps84
  go_wp2_with (first|((with_reducible refine gate_dst (N:=5) rfl ?_);refine Kd.R_make (Kd.int .u8) _ 5 rfl (N:=5) rfl 22 _ _ rfl 4 rfl rfl Try.underlying22 (.int .u8 0) 1 info5 rfl (by decide) (by omega) 0 (ok:=fun _=>True) (okp:=fun _=>True) rfl (fun _ hk=>hk) trivial (by omega) (by omega) (Below.refl _ _) (Nat.le_refl _) ?_;intro v102 w3 ho4 hb hg_ hnew_;clear hg_ hnew_;(first|rw[← Ny101.out] at ho4|(simp only[Int.reduceToNat] at ho4;rw[← Ny101.out] at ho4));have HO103:=X.mk (Kd.R_lower ho4 (qx (by solve_by_elim only[HB.out,O,U,L])));replace HB:=X.mk (qw (by solve_by_elim only[HB.out,O,U,L]) hb);clear hb ho4;obtain⟨Ao5,co5,eo5⟩:=Kd.R_slice HO103.out;subst eo5))
  go_loopg [0,8] k (fun kq v0 v8 w'=>∃ (x0_1:Int) (x3_1:List Int) (x8_1:Int),v0=.int .i64 x0_1∧v8=.int .i64 x8_1∧X (qwk.l0 kq x0_1 x3_1 (y101.length:Int) x8_1=some r)∧X (kq≤k)∧X (Kd.R (Kd.int .u8) 5 w' w.heap.size (fun _=>True) (.slice Ao5 y101.length co5) x3_1)∧X (Below w.heap.size w w'))
  case atStart=>exact⟨(a0),(y101),(0),(by first|rfl|(simp;done)|(simp[*];done)),(by first|rfl|(simp;done)|(simp[*];done)),H',⟨Nat.le_refl _⟩,⟨by(with_reducible repeat(first|apply Kd.zz|apply Kd.zq|apply Kd.zj));exact HO103.out⟩,⟨by repeat(first|(with_reducible first|exact HB.out|apply O|apply U|apply L)|exact HB.out)⟩⟩
  case round =>
   clear H'
   try clear c2
   try clear c2b0
   try clear c2b1
   try clear p2
   obtain⟨x0_1,x3_1,x8_1,rfl,rfl,HA,HK1,HO_3,HB⟩:=hrel
   have hl3_1:=(Kd.R_reads' HO_3.out).1
   rw[hl3_1] at HO_3
   (try simp only[hl3_1])
   cases gk with
   | zero=>exact absurd HA.out (by simp[qwk.l0])
   | succ k1 =>
    have H:=HA.out
    clear HA
    simp only[qwk.l0] at H
    by_cases c6:x8_1 < (y101.length:Int)
    ·rw[if_pos c6] at H
     have c6b0:decide (x8_1 < (y101.length:Int))=true:=decide_eq_true c6
     clear c6
     by_cases c7 : 0≤x8_1
     ·rw[if_pos c7] at H
      have c7b0:decide (0≤x8_1)=true:=decide_eq_true c7
      clear c7
      by_cases c8:x8_1 < (x3_1.length:Int)
      ·rw[if_pos c8] at H
       have c8b0:decide (x8_1 < (x3_1.length:Int))=true:=decide_eq_true c8
       clear c8
       obtain⟨y104,hy104⟩ : ∃ y_:List Int,y_=(x3_1.set (x8_1:Int).toNat ((Int.tmod x0_1 256) % 256)):=⟨_,rfl⟩
       replace H:(qwk.l0 k1 (wrap64 (Int.tdiv x0_1 256)) y104 (y101.length:Int) (wrap64 (x8_1 + 1)))=some r:=by first|(rw[hy104];with_reducible exact H)|(have H2_:=(Option.bind_some _ _).symm.trans H;rw[hy104];with_reducible exact H2_)|(have H2_:=(Option.bind_some _ _).symm.trans H;with_reducible exact H2_)|with_reducible exact H|(rw[hy104];exact H)|exact H
       have Ny104:=X.mk hy104
       clear hy104
       have H':=X.mk H
       clear H
       have p9 : 0≤(x8_1:Int):=of_decide_eq_true (by assumption)
       have q9:(x8_1:Int) < ((x3_1.length:Int):Int):=of_decide_eq_true (by assumption)
       obtain⟨go9,co9,eo9,gb9,gl9,cl9,HG9⟩:=Kd.R_form HO_3.out (by omega)
       (first|cases eo9|(injection eo9 with ea_ en_ ec_;(first|subst ea_|(injection ea_ with ea_;subst ea_));subst ec_;clear en_))
       have GB9:=X.mk gb9
       have GG9:=X.mk HG9
       clear gb9 gl9 HG9
       obtain⟨hx9_0,hf9_0⟩:=Kd.R_celln 0 HO_3.out (x8_1:Int) p9 q9
       replace p9:=eq_true p9
       replace q9:=eq_true q9
       have HP10:=Kd.R_putg HO_3.out (x8_1:Int) ((Int.tmod x0_1 256) % 256)
       go_wp2_with (first|((with_reducible refine zx (t:=5) (p:=16) rfl ?_);refine jq (t:=5) (p:=16) (v:=?vo_w11) (w1:=(wr.setCell ⟨go9,(x8_1:Int).toNat,none⟩ (.int .u8 ((Int.tmod x0_1 256) % 256)))) ?hg ?ho ?hn ?hr ?_;(case ho=>rfl);(case hg=>rfl);(case hn=>rfl);(case hr=>first|(go_simp;done)|(go_simp;rfl));intro w11 hw;have hg:wr.grownBy w11 (some go9):=(by rw[hw];exact HP10.2);have hp_:Kd.R (Kd.int .u8) 5 w11 w.heap.size (fun _=>True) (.slice (some ⟨go9,0,none⟩) x3_1.length co5) y104:=(by rw[hw,Ny104.out];exact HP10.1);clear HP10;replace HO_3:=X.mk (hp_);replace HB:=X.mk ((by rw[hw];exact qq (HB.out) GB9.out:Below w.heap.size w w11));clear hg hw hp_))
       (try simp only[← hl3_1])
       go_roundg k1
       case measure=>have:=HK1.out;omega
       case rel=>exact⟨(wrap64 (Int.tdiv x0_1 256)),(y104),(wrap64 (x8_1 + 1)),(by first|rfl|(simp;done)|(simp[*];done)),(by first|rfl|(simp;done)|(simp[*];done)),H',⟨by have:=HK1.out;omega⟩,⟨by(try simp only[hl3_1]);(with_reducible repeat(first|apply Kd.zz|apply Kd.zq|apply Kd.zj));exact HO_3.out⟩,⟨by repeat(first|(with_reducible first|exact HB.out|apply O|apply U|apply L)|exact HB.out)⟩⟩
      ·rw[if_neg c8] at H
       exact absurd H (by simp)
     ·rw[if_neg c7] at H
      exact absurd H (by simp)
    ·rw[if_neg c6] at H
     have c6b0:decide (x8_1 < (y101.length:Int))=false:=decide_eq_false c6
     rw[hl3_1] at c6b0
     clear c6
     obtain rfl:=Option.some.inj H
     go_wp2
     go_ret
     exact⟨_,by first|rfl|(simp[*,zv,zk] <;> rfl),by(with_reducible repeat(first|apply Kd.zz|apply Kd.zq|apply Kd.zj));exact HO_3.out,by repeat(first|(with_reducible first|exact HB.out|apply O|apply U|apply L)|exact HB.out)⟩
 ·rw[if_neg c2] at H
  exact absurd H (by simp)
mutual
def qwv.l0:Nat→List Int→List Int→List Int→Int→Int→Option (List Int)
 | 0,_,_,_,_,_=>none
 | k + 1,x0,x3,x13,x14,x15=>if x15 < x14 then(if 0≤x15 then(if x15 < (x13.length:Int) then((qww.f k x3 (wrap64 (rd x13 x15))).bind fun t105=>(qwv.l0 k x0 t105 x13 x14 (wrap64 (x15 + 1)))) else(none)) else(none)) else((qwk.f k (x0.length:Int)).bind fun t106=>(qwv.l1 k x3 t106 (t106.length:Int) 0))
def qwv.l1:Nat→List Int→List Int→Int→Int→Option (List Int)
 | 0,_,_,_,_=>none
 | k + 1,x3,x26,x27,x28=>if x28 < x27 then(if 0≤x28 then(if x28 < (x26.length:Int) then((qww.f k x3 (wrap64 (rd x26 x28))).bind fun t110=>(qwv.l1 k t110 x26 x27 (wrap64 (x28 + 1)))) else(none)) else(none)) else(qwv.l2 k x3 0)
def qwv.l2:Nat→List Int→Int→Option (List Int)
 | 0,_,_=>none
 | k + 1,x3,x8=>if x8 < 8 then((qww.f k x3 0).bind fun t111=>(qwv.l2 k t111 (wrap64 (x8 + 1)))) else(qwv.l3 k ([]:List Int) x3 (x3.length:Int) 0)
def qwv.l3:Nat→List Int→List Int→Int→Int→Option (List Int)
 | 0,_,_,_,_=>none
 | k + 1,x9,x43,x44,x45=>if x45 < x44 then(if 0≤x45 then(if x45 < (x43.length:Int) then((qwk.f k (rd x43 x45)).bind fun t113=>(if x9.length + t113.length < 140737488355328 then(qwv.l3 k (x9 ++ t113) x43 x44 (wrap64 (x45 + 1))) else(none))) else(none)) else(none)) else(some x9)
end
def qwv.f (k:Nat) (l0:List Int):Option (List Int):=qwv.l0 k l0 (([11,22,33,44]:List Int)) l0 (l0.length:Int) 0
theorem qwv.calls (k:Nat) (A0:Option Addr) (c0:Nat) (l0:List Int) (r:List Int) (w:World) (hr0:Kd.C (Kd.int .u8) w A0 l0.length l0) (hc0:l0.length≤c0) (h:qwv.f k l0=some r) :
  Calls Try.prog 61 #[.slice A0 l0.length c0] w fun e w'=>∃ v0_:Value,e=.returned (v0_)∧Kd.R (Kd.int .u8) 5 w' w.heap.size (fun _=>True) v0_ r∧Below w.heap.size w w':=by
 have HR0:=X.mk hr0
 have HC0:=X.mk hc0
 clear hr0 hc0
 have HB:=X.mk (Below.refl w.heap.size w)
 have H:(qwv.l0 k l0 (([11,22,33,44]:List Int)) l0 (l0.length:Int) 0)=some r:=h
 clear h
 obtain⟨y101,hy101⟩ : ∃ y_:List Int,y_=(([11,22,33,44]:List Int)):=⟨_,rfl⟩
 replace H:(qwv.l0 k l0 y101 l0 (l0.length:Int) 0)=some r:=by first|(rw[hy101];with_reducible exact H)|(have H2_:=(Option.bind_some _ _).symm.trans H;rw[hy101];with_reducible exact H2_)|(have H2_:=(Option.bind_some _ _).symm.trans H;with_reducible exact H2_)|with_reducible exact H|(rw[hy101];exact H)|exact H
 have Ny101:=X.mk hy101
 clear hy101
 have H':=X.mk H
 clear H
 go_enter Try.func61,Try.ntmps61
 go_wp2_with (first|((with_reducible refine gate_dst (N:=12) rfl ?_);refine Kd.R_lit (Kd.int .i64) _ 3 ?hg (N:=12) ?hd (xs:=([11,22,33,44]:List Int)) (inner:=[.int .i64 11,.int .i64 22,.int .i64 33,.int .i64 44]) (ok:=fun _=>True) (okp:=fun _=>True) ?hr ?hp (fun _ hk=>hk) trivial (Below.refl _ _) (Nat.le_refl _) (by simp) ?_;(case hd=>rfl);(case hg=>rfl);(case hr=>first|(go_simp;done)|(go_simp;rfl));(case hp=>exact(Reps.one (show Kd.M (Kd.int .i64) _ _ _ 11 [.int .i64 11] from rfl) (Reps.one (show Kd.M (Kd.int .i64) _ _ _ 22 [.int .i64 22] from rfl) (Reps.one (show Kd.M (Kd.int .i64) _ _ _ 33 [.int .i64 33] from rfl) (Reps.one (show Kd.M (Kd.int .i64) _ _ _ 44 [.int .i64 44] from rfl) (Reps.none _ _))))));intro v102 w2 ho3 hb hg_ hnew_;clear hg_ hnew_;(first|rw[← Ny101.out] at ho3|(simp only[Int.reduceToNat] at ho3;rw[← Ny101.out] at ho3));have HO103:=X.mk (Kd.R_lower ho3 (qx (by solve_by_elim only[HB.out,O,U,L])));replace HB:=X.mk (qw (by solve_by_elim only[HB.out,O,U,L]) hb);clear hb ho3))
 go_loopg [15] k (fun kq v15 w'=>∃ (x3_1:List Int) (x15_1:Int),v15=.int .i64 x15_1∧X (qwv.l0 kq l0 x3_1 l0 (l0.length:Int) x15_1=some r)∧X (kq≤k)∧X (Kd.R (Kd.int .i64) 3 w' w.heap.size (fun _=>True) v102 x3_1)∧X (Below w.heap.size w w'))
 case atStart=>exact⟨(y101),(0),(by first|rfl|(simp;done)|(simp[*];done)),H',⟨Nat.le_refl _⟩,⟨by(with_reducible repeat(first|apply Kd.zz|apply Kd.zq|apply Kd.zj));exact HO103.out⟩,⟨by repeat(first|(with_reducible first|exact HB.out|apply O|apply U|apply L)|exact HB.out)⟩⟩
 case round =>
  clear H'
  try clear p2
  obtain⟨x3_1,x15_1,rfl,HA,HK1,HO_3,HB⟩:=hrel
  cases gk with
  | zero=>exact absurd HA.out (by simp[qwv.l0])
  | succ k1 =>
   have H:=HA.out
   clear HA
   simp only[qwv.l0] at H
   by_cases c4:x15_1 < (l0.length:Int)
   ·rw[if_pos c4] at H
    have c4b0:decide (x15_1 < (l0.length:Int))=true:=decide_eq_true c4
    clear c4
    by_cases c5 : 0≤x15_1
    ·rw[if_pos c5] at H
     have c5b0:decide (0≤x15_1)=true:=decide_eq_true c5
     clear c5
     by_cases c6:x15_1 < (l0.length:Int)
     ·rw[if_pos c6] at H
      have c6b0:decide (x15_1 < (l0.length:Int))=true:=decide_eq_true c6
      clear c6
      replace H:=jq8.mp H
      obtain⟨t105,A70,H⟩:=H
      try dsimp only at H
      have A7:=X.mk A70
      clear A70
      have H':=X.mk H
      clear H
      have p104 : 0≤(x15_1:Int):=of_decide_eq_true (by assumption)
      have q104:x15_1 < (l0.length:Int):=of_decide_eq_true (by assumption)
      obtain⟨ad104,e104,hx104_0⟩:=Kd.at_int HR0.out x15_1 p104 q104
      cases e104
      replace hx104_0:=(HB.out.cell (World.block_lt_of_cell? w _ hx104_0)).trans hx104_0
      replace p104:=eq_true p104
      replace q104:=eq_true q104
      obtain⟨Ao8,co8,eo8⟩:=Kd.R_slice HO_3.out
      subst eo8
      go_wp2_with (first|((with_reducible refine zw (f:=83) rfl ?_);refine goesL_ (some 22) rfl rfl Try.func83 (by kernel_rfl) rfl #[.slice Ao8 x3_1.length co8,.int .i64 (wrap64 (rd l0 x15_1))] rfl (by(try simp only[jq0,jq1,jq2]);first|done|rfl|(simp only[jq3,jq4];rfl)) ?_;(with_reducible refine(qww.calls k1 (fun k_=>some k_=(.slice Ao8 x3_1.length co8:Value).ownBlock) (.slice Ao8 x3_1.length co8) x3_1 (wrap64 (rd l0 x15_1)) t105 w _ ?side1 ?side2 A7.out).mono ?_);(case side1=>repeat(first|(with_reducible first|exact HB.out|apply O|apply U|apply L)|exact HB.out));(case side2=>exact Kd.R_tight rfl HO_3.out);rintro e w9 ⟨rfl,hy0,hb,hkp⟩;refine⟨_,rfl,?_⟩;replace HO_3:=X.mk (Kd.R_reok rfl hy0 (fun k_ e_=>HO_3.out.1 k_ e_));replace HB:=X.mk (hb);(try clear hb hkp hy0)))
      go_roundg k1
      case measure=>have:=HK1.out;omega
      case rel=>exact⟨(t105),(wrap64 (x15_1 + 1)),(by first|rfl|(simp;done)|(simp[*];done)),H',⟨by have:=HK1.out;omega⟩,⟨by(with_reducible repeat(first|apply Kd.zz|apply Kd.zq|apply Kd.zj));exact HO_3.out⟩,⟨by repeat(first|(with_reducible first|exact HB.out|apply O|apply U|apply L)|exact HB.out)⟩⟩
     ·rw[if_neg c6] at H
      exact absurd H (by simp)
    ·rw[if_neg c5] at H
     exact absurd H (by simp)
   ·rw[if_neg c4] at H
    have c4b0:decide (x15_1 < (l0.length:Int))=false:=decide_eq_false c4
    clear c4
    replace H:=jq8.mp H
    obtain⟨t106,A100,H⟩:=H
    try dsimp only at H
    have A10:=X.mk A100
    clear A100
    have H':=X.mk H
    clear H
    go_wp2_with (first|((with_reducible refine zw (f:=84) rfl ?_);refine goesL_ (some 26) rfl rfl Try.func84 (by kernel_rfl) rfl #[.int .i64 (l0.length:Int)] rfl (by(try simp only[jq0,jq1,jq2]);first|done|rfl|(simp only[jq3,jq4];rfl)) ?_;(with_reducible refine(qwk.calls k1 (l0.length:Int) t106 _ A10.out).mono ?_);rintro e w11 ⟨v107,rfl,ho0,hb⟩;refine⟨_,rfl,?_⟩;replace HO_3:=X.mk (Kd.R_below (by solve_by_elim only[HO_3.out,Kd.zz,Kd.zq,Kd.zj]) hb);have HO108:=X.mk (Kd.R_lower ho0 (qx (by solve_by_elim only[HB.out,O,U,L])));replace HB:=X.mk (qw (by solve_by_elim only[HB.out,O,U,L]) hb);(try clear hb ho0);obtain⟨Ao12,co12,eo12⟩:=Kd.R_slice HO108.out;subst eo12))
    go_loopg [28] k1 (fun kq v28 w'=>∃ (x3_2:List Int) (x28_2:Int),v28=.int .i64 x28_2∧X (qwv.l1 kq x3_2 t106 (t106.length:Int) x28_2=some r)∧X (kq≤k1)∧X (Kd.R (Kd.int .i64) 3 w' w.heap.size (fun _=>True) v102 x3_2)∧X (Kd.R (Kd.int .u8) 5 w' w.heap.size (fun _=>True) (.slice Ao12 t106.length co12) t106)∧X (Below w.heap.size w w'))
    case atStart=>exact⟨(x3_1),(0),(by first|rfl|(simp;done)|(simp[*];done)),H',⟨Nat.le_refl _⟩,⟨by(with_reducible repeat(first|apply Kd.zz|apply Kd.zq|apply Kd.zj));exact HO_3.out⟩,⟨by(with_reducible repeat(first|apply Kd.zz|apply Kd.zq|apply Kd.zj));exact HO108.out⟩,⟨by repeat(first|(with_reducible first|exact HB.out|apply O|apply U|apply L)|exact HB.out)⟩⟩
    case round =>
     clear H'
     try clear p1
     try clear q1
     try clear hx1
     try clear p2
     try clear c4
     try clear c4b0
     try clear c5
     try clear c5b0
     try clear c6
     try clear c6b0
     try clear p6
     try clear c8
     try clear p10
     try clear q10
     try clear hx10
     try clear hx104_0
     try clear p104
     try clear p2
     try clear q104
     obtain⟨x3_2,x28_2,rfl,HA,HK2,HO_3,HO_26,HB⟩:=hrel
     cases gk with
     | zero=>exact absurd HA.out (by simp[qwv.l1])
     | succ k2 =>
      have H:=HA.out
      clear HA
      simp only[qwv.l1] at H
      by_cases c13:x28_2 < (t106.length:Int)
      ·rw[if_pos c13] at H
       have c13b0:decide (x28_2 < (t106.length:Int))=true:=decide_eq_true c13
       clear c13
       by_cases c14 : 0≤x28_2
       ·rw[if_pos c14] at H
        have c14b0:decide (0≤x28_2)=true:=decide_eq_true c14
        clear c14
        by_cases c15:x28_2 < (t106.length:Int)
        ·rw[if_pos c15] at H
         have c15b0:decide (x28_2 < (t106.length:Int))=true:=decide_eq_true c15
         clear c15
         replace H:=jq8.mp H
         obtain⟨t110,A160,H⟩:=H
         try dsimp only at H
         have A16:=X.mk A160
         clear A160
         have H':=X.mk H
         clear H
         have p109 : 0≤(x28_2:Int):=of_decide_eq_true (by assumption)
         have q109:x28_2 < (t106.length:Int):=of_decide_eq_true (by assumption)
         obtain⟨ad109,e109,hx109_0⟩:=Kd.at_int (Kd.R_reads' HO_26.out).2.2 x28_2 p109 q109
         cases e109
         replace p109:=eq_true p109
         replace q109:=eq_true q109
         obtain⟨Ao17,co17,eo17⟩:=Kd.R_slice HO_3.out
         subst eo17
         go_wp2_with (first|((with_reducible refine zw (f:=83) rfl ?_);refine goesL_ (some 35) rfl rfl Try.func83 (by kernel_rfl) rfl #[.slice Ao17 x3_2.length co17,.int .i64 (wrap64 (rd t106 x28_2))] rfl (by(try simp only[jq0,jq1,jq2]);first|done|rfl|(simp only[jq3,jq4];rfl)) ?_;(with_reducible refine(qww.calls k2 (fun k_=>some k_=(.slice Ao17 x3_2.length co17:Value).ownBlock) (.slice Ao17 x3_2.length co17) x3_2 (wrap64 (rd t106 x28_2)) t110 w _ ?side1 ?side2 A16.out).mono ?_);(case side1=>repeat(first|(with_reducible first|exact HB.out|apply O|apply U|apply L)|exact HB.out));(case side2=>exact Kd.R_tight rfl HO_3.out);rintro e w18 ⟨rfl,hy0,hb,hkp⟩;refine⟨_,rfl,?_⟩;replace HO_26:=X.mk (Kd.R_mono (ok':=fun k_=>True) (Kd.R_keptB ((Kd.R_apart' HO_26.out (Kd.R_typed HO_3.out) (by decide))) hkp (fun k_ hk_ hs_=>absurd hs_ (by first|exact hk_.2|((try simp only[and_assoc] at hk_);first|exact hk_.1|exact hk_.2.1|exact hk_.2.2.1|exact hk_.2.2.2.1|exact hk_.2.2.2.2.1|exact hk_.2.2.2.2.2.1|exact hk_.2.2.2.2.2.2.1|exact hk_.2.2.2.2.2.2.2.1|exact hk_.2.2.2.2.2.2.2.2.1|exact hk_.2.2.2.2.2.2.2.2.2.1|exact hk_.2.2.2.2.2.2.2.2.2.2.1|exact hk_.2.2.2.2.2.2.2.2.2.2.2.1|exact hk_.2.2.2.2.2.2.2.2.2.2.2.2.1|exact hk_.2.2.2.2.2.2.2.2.2.2.2.2.2.1|exact hk_.2.2.2.2.2.2.2.2.2.2.2.2.2.2.1|exact hk_.2.2.2.2.2.2.2.2.2.2.2.2.2.2.2.1|exact hk_.2|exact hk_.2.2|exact hk_.2.2.2|exact hk_.2.2.2.2|exact hk_.2.2.2.2.2|exact hk_.2.2.2.2.2.2|exact hk_.2.2.2.2.2.2.2|exact hk_.2.2.2.2.2.2.2.2|exact hk_.2.2.2.2.2.2.2.2.2|exact hk_.2.2.2.2.2.2.2.2.2.2|exact hk_.2.2.2.2.2.2.2.2.2.2.2|exact hk_.2.2.2.2.2.2.2.2.2.2.2.2|exact hk_.2.2.2.2.2.2.2.2.2.2.2.2.2|exact hk_.2.2.2.2.2.2.2.2.2.2.2.2.2.2|exact hk_.2.2.2.2.2.2.2.2.2.2.2.2.2.2.2)))) (fun k_ hk_=>trivial));replace HO_3:=X.mk (Kd.R_reok rfl hy0 (fun k_ e_=>HO_3.out.1 k_ e_));replace HB:=X.mk (hb);(try clear hb hkp hy0)))
         go_roundg k2
         case measure=>have:=HK1.out;have:=HK2.out;omega
         case rel=>exact⟨(t110),(wrap64 (x28_2 + 1)),(by first|rfl|(simp;done)|(simp[*];done)),H',⟨by have:=HK1.out;have:=HK2.out;omega⟩,⟨by(with_reducible repeat(first|apply Kd.zz|apply Kd.zq|apply Kd.zj));exact HO_3.out⟩,⟨by(with_reducible repeat(first|apply Kd.zz|apply Kd.zq|apply Kd.zj));exact HO_26.out⟩,⟨by repeat(first|(with_reducible first|exact HB.out|apply O|apply U|apply L)|exact HB.out)⟩⟩
        ·rw[if_neg c15] at H
         exact absurd H (by simp)
       ·rw[if_neg c14] at H
        exact absurd H (by simp)
      ·rw[if_neg c13] at H
       have c13b0:decide (x28_2 < (t106.length:Int))=false:=decide_eq_false c13
       clear c13
       have H':=X.mk H
       clear H
       go_wp2
       go_loopg [8] k2 (fun kq v8 w'=>∃ (x3_3:List Int) (x8_3:Int),v8=.int .i64 x8_3∧X (qwv.l2 kq x3_3 x8_3=some r)∧X (kq≤k2)∧X (Kd.R (Kd.int .i64) 3 w' w.heap.size (fun _=>True) v102 x3_3)∧X (Below w.heap.size w w'))
       case atStart=>exact⟨(x3_2),(0),(by first|rfl|(simp;done)|(simp[*];done)),H',⟨Nat.le_refl _⟩,⟨by(with_reducible repeat(first|apply Kd.zz|apply Kd.zq|apply Kd.zj));exact HO_3.out⟩,⟨by repeat(first|(with_reducible first|exact HB.out|apply O|apply U|apply L)|exact HB.out)⟩⟩
       case round =>
        clear H'
        try clear c1
        try clear p1
        try clear q1
        try clear hx1
        try clear p2
        try clear c4
        try clear c4b0
        try clear c5
        try clear c5b0
        try clear c6
        try clear c6b0
        try clear p6
        try clear c8
        try clear p10
        try clear q10
        try clear hx10
        try clear c13
        try clear c13b0
        try clear c14
        try clear c14b0
        try clear c15
        try clear c15b0
        try clear hx104_0
        try clear hx109_0
        try clear p1
        try clear p10
        try clear p104
        try clear p109
        try clear p2
        try clear p6
        try clear q1
        try clear q10
        try clear q104
        try clear q109
        obtain⟨x3_3,x8_3,rfl,HA,HK3,HO_3,HB⟩:=hrel
        cases gk with
        | zero=>exact absurd HA.out (by simp[qwv.l2])
        | succ k3 =>
         have H:=HA.out
         clear HA
         simp only[qwv.l2] at H
         by_cases c19:x8_3 < 8
         ·rw[if_pos c19] at H
          have c19b0:decide (x8_3 < 8)=true:=decide_eq_true c19
          clear c19
          replace H:=jq8.mp H
          obtain⟨t111,A200,H⟩:=H
          try dsimp only at H
          have A20:=X.mk A200
          clear A200
          have H':=X.mk H
          clear H
          obtain⟨Ao21,co21,eo21⟩:=Kd.R_slice HO_3.out
          subst eo21
          go_wp2_with (first|((with_reducible refine zw (f:=83) rfl ?_);refine goesL_ (some 42) rfl rfl Try.func83 (by kernel_rfl) rfl #[.slice Ao21 x3_3.length co21,.int .i64 0] rfl (by(try simp only[jq0,jq1,jq2]);first|done|rfl|(simp only[jq3,jq4];rfl)) ?_;(with_reducible refine(qww.calls k3 (fun k_=>some k_=(.slice Ao21 x3_3.length co21:Value).ownBlock) (.slice Ao21 x3_3.length co21) x3_3 0 t111 w _ ?side1 ?side2 A20.out).mono ?_);(case side1=>repeat(first|(with_reducible first|exact HB.out|apply O|apply U|apply L)|exact HB.out));(case side2=>exact Kd.R_tight rfl HO_3.out);rintro e w22 ⟨rfl,hy0,hb,hkp⟩;refine⟨_,rfl,?_⟩;replace HO_3:=X.mk (Kd.R_reok rfl hy0 (fun k_ e_=>HO_3.out.1 k_ e_));replace HB:=X.mk (hb);(try clear hb hkp hy0)))
          go_roundg k3
          case measure=>have:=HK1.out;have:=HK2.out;have:=HK3.out;omega
          case rel=>exact⟨(t111),(wrap64 (x8_3 + 1)),(by first|rfl|(simp;done)|(simp[*];done)),H',⟨by have:=HK1.out;have:=HK2.out;have:=HK3.out;omega⟩,⟨by(with_reducible repeat(first|apply Kd.zz|apply Kd.zq|apply Kd.zj));exact HO_3.out⟩,⟨by repeat(first|(with_reducible first|exact HB.out|apply O|apply U|apply L)|exact HB.out)⟩⟩
         ·rw[if_neg c19] at H
          have c19b0:decide (x8_3 < 8)=false:=decide_eq_false c19
          clear c19
          have H':=X.mk H
          clear H
          obtain⟨Ao23,co23,eo23⟩:=Kd.R_slice HO_3.out
          subst eo23
          go_wp2
          go_loopg [9,45] k3 (fun kq v9 v45 w'=>∃ (x9_4:List Int) (x45_4:Int),v45=.int .i64 x45_4∧X (qwv.l3 kq x9_4 x3_3 (x3_3.length:Int) x45_4=some r)∧X (kq≤k3)∧X (Kd.R (Kd.int .u8) 5 w' w.heap.size (fun _=>True) v9 x9_4)∧X (Kd.R (Kd.int .i64) 3 w' w.heap.size (fun _=>True) (.slice Ao23 x3_3.length co23) x3_3)∧X (Below w.heap.size w w'))
          case atStart=>exact⟨(([]:List Int)),(0),(by first|rfl|(simp;done)|(simp[*];done)),H',⟨Nat.le_refl _⟩,⟨by first|exact Kd.R_nil _ _ _ _ _|exact Kd.N_nil _ _ _ _ _|exact Kd.V_nil _ _ _ _ _|exact Kd.Q_nil _ _ _ _ _|exact Kd.S_nil _ _ _ _ _⟩,⟨by(with_reducible repeat(first|apply Kd.zz|apply Kd.zq|apply Kd.zj));exact HO_3.out⟩,⟨by repeat(first|(with_reducible first|exact HB.out|apply O|apply U|apply L)|exact HB.out)⟩⟩
          case round =>
           clear H'
           try clear c1
           try clear p1
           try clear q1
           try clear hx1
           try clear p2
           try clear c4
           try clear c4b0
           try clear c5
           try clear c5b0
           try clear c6
           try clear c6b0
           try clear p6
           try clear c8
           try clear p10
           try clear q10
           try clear hx10
           try clear c13
           try clear c13b0
           try clear c14
           try clear c14b0
           try clear c15
           try clear c15b0
           try clear c19
           try clear c19b0
           try clear hx104_0
           try clear hx109_0
           try clear p1
           try clear p10
           try clear p104
           try clear p109
           try clear p2
           try clear p6
           try clear q1
           try clear q10
           try clear q104
           try clear q109
           obtain⟨x9_4,x45_4,rfl,HA,HK4,HO_9,HO_43,HB⟩:=hrel
           cases gk with
           | zero=>exact absurd HA.out (by simp[qwv.l3])
           | succ k4 =>
            have H:=HA.out
            clear HA
            simp only[qwv.l3] at H
            by_cases c24:x45_4 < (x3_3.length:Int)
            ·rw[if_pos c24] at H
             have c24b0:decide (x45_4 < (x3_3.length:Int))=true:=decide_eq_true c24
             clear c24
             by_cases c25 : 0≤x45_4
             ·rw[if_pos c25] at H
              have c25b0:decide (0≤x45_4)=true:=decide_eq_true c25
              clear c25
              by_cases c26:x45_4 < (x3_3.length:Int)
              ·rw[if_pos c26] at H
               have c26b0:decide (x45_4 < (x3_3.length:Int))=true:=decide_eq_true c26
               clear c26
               replace H:=jq8.mp H
               obtain⟨t113,A270,H⟩:=H
               try dsimp only at H
               have A27:=X.mk A270
               clear A270
               by_cases c28:x9_4.length + t113.length < 140737488355328
               ·rw[if_pos c28] at H
                have LMc28:=X.mk c28
                clear c28
                obtain⟨y116,hy116⟩ : ∃ y_:List Int,y_=(x9_4 ++ t113):=⟨_,rfl⟩
                replace H:(qwv.l3 k4 y116 x3_3 (x3_3.length:Int) (wrap64 (x45_4 + 1)))=some r:=by first|(rw[hy116];with_reducible exact H)|(have H2_:=(Option.bind_some _ _).symm.trans H;rw[hy116];with_reducible exact H2_)|(have H2_:=(Option.bind_some _ _).symm.trans H;with_reducible exact H2_)|with_reducible exact H|(rw[hy116];exact H)|exact H
                have Ny116:=X.mk hy116
                clear hy116
                have H':=X.mk H
                clear H
                have p112 : 0≤(x45_4:Int):=of_decide_eq_true (by assumption)
                have q112:x45_4 < (x3_3.length:Int):=of_decide_eq_true (by assumption)
                obtain⟨ad112,e112,hx112_0⟩:=Kd.at_int (Kd.R_reads' HO_43.out).2.2 x45_4 p112 q112
                cases e112
                replace p112:=eq_true p112
                replace q112:=eq_true q112
                go_wp2_with (first|((with_reducible refine zw (f:=84) rfl ?_);refine goesL_ (some 51) rfl rfl Try.func84 (by kernel_rfl) rfl #[.int .i64 (rd x3_3 x45_4)] rfl (by(try simp only[jq0,jq1,jq2]);first|done|rfl|(simp only[jq3,jq4];rfl)) ?_;(with_reducible refine(qwk.calls k4 (rd x3_3 x45_4) t113 _ A27.out).mono ?_);rintro e w29 ⟨v114,rfl,ho0,hb⟩;refine⟨_,rfl,?_⟩;replace HO_43:=X.mk (Kd.R_below (by solve_by_elim only[HO_43.out,Kd.zz,Kd.zq,Kd.zj]) hb);have HO115:=X.mk (Kd.R_lower (Kd.R_new' ho0 (Kd.R_lt (by solve_by_elim only[HO_9.out,Kd.zz,Kd.zq,Kd.zj]))) (qx (by solve_by_elim only[HB.out,O,U,L])));replace HO_9:=X.mk (Kd.R_elder' (by solve_by_elim only[HO_9.out,Kd.zz,Kd.zq,Kd.zj]) (Kd.R_base ho0) hb);replace HB:=X.mk (qw (by solve_by_elim only[HB.out,O,U,L]) hb);(try clear hb ho0);obtain⟨Ao31,co31,eo31⟩:=Kd.R_slice HO115.out;subst eo31)|((with_reducible refine gate_builtin (b:=.append) (xs:=#[.tmp 49,.tmp 51]) rfl ?_);at_builtin;refine Kd.R_append_rows (Kd.int .u8) (w0:=w) w.heap.size rfl (.tmp 49) (.tmp 51) 22 5 (.int .u8 0) 1 rfl Try.underlying22 info5 rfl (by decide) (by omega) u9 x9_4 t113 _ _ _ (fun k_=>some k_≠(.slice Ao31 t113.length co31:Value).ownBlock) (fun _=>False) rfl rfl ?aO ?aR (fun _ _ h=>h) (fun _ h=>h.elim) ?aF ?aB ?aS ?aL ?_;(case aR=>repeat(first|exact(Kd.R_reads' HO115.out).2.2|(with_reducible refine Kd.C_alloc ?_ _)|(with_reducible refine Kd.C_drewN ?_ _)|(with_reducible refine Kd.C_drew ?_)));(case aB=>exact(by solve_by_elim only[HB.out,O,U,L]));(case aF=>exact(fun k_ hk=>Kd.fresh' (Kd.R_lt (by solve_by_elim only[HO115.out,Kd.zz,Kd.zq,Kd.zj])) k_ hk));(case aO=>exact(by(with_reducible repeat(first|apply Kd.zz|apply Kd.zq|apply Kd.zj));exact Kd.R_mono HO_9.out (fun _ hk=>hk.2)));(case aS=>exact(qx (by solve_by_elim only[HB.out,O,U,L])));(case aL=>have:=LMc28.out;omega);intro v117 w30 ho hb hg hat;rw[← Ny116.out] at ho;replace HO_43:=X.mk (Kd.R_over' (by solve_by_elim only[HO_43.out,Kd.zz,Kd.zq,Kd.zj]) (Kd.R_typed (by solve_by_elim only[HO_9.out,Kd.zz,Kd.zq,Kd.zj])) (by decide) hg);replace HO115:=X.mk (Kd.R_after (ok:=(fun _=>True)) (by solve_by_elim only[HO115.out,Kd.zz,Kd.zq,Kd.zj]) hg hat);replace HB:=X.mk (hb);have HO118:=X.mk (ho);clear HO_9;clear ho hb hg hat))
                go_roundg k4
                case measure=>have:=HK1.out;have:=HK2.out;have:=HK3.out;have:=HK4.out;omega
                case rel=>exact⟨(y116),(wrap64 (x45_4 + 1)),(by first|rfl|(simp;done)|(simp[*];done)),H',⟨by have:=HK1.out;have:=HK2.out;have:=HK3.out;have:=HK4.out;omega⟩,⟨by(with_reducible repeat(first|apply Kd.zz|apply Kd.zq|apply Kd.zj));exact Kd.R_mono HO118.out (fun _ hk=>trivial)⟩,⟨by(with_reducible repeat(first|apply Kd.zz|apply Kd.zq|apply Kd.zj));exact HO_43.out⟩,⟨by repeat(first|(with_reducible first|exact HB.out|apply O|apply U|apply L)|exact HB.out)⟩⟩
               ·rw[if_neg c28] at H
                exact absurd H (by simp)
              ·rw[if_neg c26] at H
               exact absurd H (by simp)
             ·rw[if_neg c25] at H
              exact absurd H (by simp)
            ·rw[if_neg c24] at H
             have c24b0:decide (x45_4 < (x3_3.length:Int))=false:=decide_eq_false c24
             clear c24
             obtain rfl:=Option.some.inj H
             go_wp2
             go_ret
             exact⟨_,by first|rfl|(simp[*,zv,zk] <;> rfl),by(with_reducible repeat(first|apply Kd.zz|apply Kd.zq|apply Kd.zj));exact HO_9.out,by repeat(first|(with_reducible first|exact HB.out|apply O|apply U|apply L)|exact HB.out)⟩
end Go.Proofs.Ytakocdkcfjkmdaa.Pr
namespace Go.Proofs.Ytakocdkcfjkmdaa.Pr
open Go.RowKit Go.Proofs.YtakocdkcfjkmdaaW.PrintWords Go.Proofs.YtakocdkcfjkmdaaW.PrintLast Go.Proofs.YtakocdkcfjkmdaaW.PrintMore
attribute [local go_sem] max2_int min2_int max_two min_two max_three min_three max_four min_four
set_option linter.unusedVariables false
set_option linter.unusedSimpArgs false
def qkx.j0:Nat→Bool→List (S77)→List Int→Int→Int→ByteArray→ByteArray→Bool→Bool→ByteArray→List Int→List ByteArray→List ByteArray→List Int→Option (Bool)
 | 0,_,_,_,_,_,_,_,_,_,_,_,_,_,_=>none
 | k + 1,x40,x102000,x102001,x102002,x102003,x102004,x102005,x102006,x102007,x117000,x117001,x117002,x117003,x117004=>if x40=true then(some false) else(if (x117001.length:Int)=0 then(some (x102005.toList == ([]:List UInt8))) else(if x102005.toList=([]:List UInt8) then(some false) else((bytesOfS.f x102005).bind fun t119=>((qwv.f k t119).bind fun t122=>(some ((strOfNums t122).toList == (strOfNums x117001).toList))))))
def qkx.f (k:Nat) (l0_0:List (S77)) (l0_1:List Int) (a0_2:Int) (a0_3:Int) (a0_4:ByteArray) (a0_5:ByteArray) (a0_6:Bool) (a0_7:Bool):Option (Bool):=(qwj.f k l0_0 l0_1 a0_2 a0_3 a0_4 a0_5 a0_6 a0_7).bind fun bt102=>(if bt102.2.2.2.2.2=true then((qvz.f k l0_0 l0_1 a0_2 a0_3).bind fun t117=>(if t117=true then(if (bt102.2.2.1.length:Int)=0 then(qkx.j0 k true l0_0 l0_1 a0_2 a0_3 a0_4 a0_5 a0_6 a0_7 bt102.1 bt102.2.1 bt102.2.2.1 bt102.2.2.2.1 bt102.2.2.2.2.1) else(if (bt102.2.2.2.1.length:Int)=0 then(qkx.j0 k true l0_0 l0_1 a0_2 a0_3 a0_4 a0_5 a0_6 a0_7 bt102.1 bt102.2.1 bt102.2.2.1 bt102.2.2.2.1 bt102.2.2.2.2.1) else((qvj.f k bt102.1 bt102.2.1 bt102.2.2.1 bt102.2.2.2.1 bt102.2.2.2.2.1 1).bind fun t118=>(if t118=true then(qkx.j0 k (decide ((a0_5.size:Int) > 200)) l0_0 l0_1 a0_2 a0_3 a0_4 a0_5 a0_6 a0_7 bt102.1 bt102.2.1 bt102.2.2.1 bt102.2.2.2.1 bt102.2.2.2.2.1) else(qkx.j0 k true l0_0 l0_1 a0_2 a0_3 a0_4 a0_5 a0_6 a0_7 bt102.1 bt102.2.1 bt102.2.2.1 bt102.2.2.2.1 bt102.2.2.2.2.1))))) else(qkx.j0 k true l0_0 l0_1 a0_2 a0_3 a0_4 a0_5 a0_6 a0_7 bt102.1 bt102.2.1 bt102.2.2.1 bt102.2.2.2.1 bt102.2.2.2.2.1))) else(qkx.j0 k true l0_0 l0_1 a0_2 a0_3 a0_4 a0_5 a0_6 a0_7 bt102.1 bt102.2.1 bt102.2.2.1 bt102.2.2.2.1 bt102.2.2.2.2.1))
def qkx.T6:Bool × List (List Nat × List Nat):=(true,[([],[]),([0],[0]),([1],[1]),([2],[2]),([3],[3]),([4,3],[3,4]),([5,3],[3,5]),([6,3,3],[3,6]),([7,3],[3,7]),([3],[3]),([9,3],[3,9]),([10,3],[3,10]),([8,11,3],[3,8,11]),([3,12],[3,12]),([13,7,0,1,2,3,4,5,6,7,8,9,10,11,12,13],[13])])
def qkx.B6:List Nat:=[0,1,3,7,15,31,63,127,255,15,527,1551,4095,8191,16383]
theorem qkx.tab6:rtab .any (opsOf Try.f30 6)=qkx.T6:=by kernel_rfl
theorem qkx.bits6:waitsOk qkx.T6.2 qkx.B6=true:=by kernel_rfl
theorem qkx.calls (k:Nat) (A0_0:Option Addr) (c0_0:Nat) (l0_0:List (S77)) (A0_1:Option Addr) (c0_1:Nat) (l0_1:List Int) (a0_2:Int) (a0_3:Int) (a0_4:ByteArray) (a0_5:ByteArray) (a0_6:Bool) (a0_7:Bool) (r:Bool) (w:World) (hr0_0:Kd.C k77 w A0_0 l0_0.length l0_0) (hc0_0:l0_0.length≤c0_0) (hr0_1:Kd.C (Kd.int .u8) w A0_1 l0_1.length l0_1) (hc0_1:l0_1.length≤c0_1) (h:qkx.f k l0_0 l0_1 a0_2 a0_3 a0_4 a0_5 a0_6 a0_7=some r) :
  Calls Try.prog 30 #[.agg #[.slice A0_0 l0_0.length c0_0,.slice A0_1 l0_1.length c0_1,.int .i64 a0_2,.int .i64 a0_3,.string a0_4,.string a0_5,.bool a0_6,.bool a0_7]] w fun e w'=>e=.returned (.bool r)∧Below w.heap.size w w':=by
 have hu62:=Try.underlying62
 have hu77:=Try.underlying77
 have hu45:=Try.underlying45
 have HR0_0:=X.mk hr0_0
 have HC0_0:=X.mk hc0_0
 clear hr0_0 hc0_0
 have HR0_1:=X.mk hr0_1
 have HC0_1:=X.mk hc0_1
 clear hr0_1 hc0_1
 have HB:=X.mk (Below.refl w.heap.size w)
 unfold qkx.f at h
 have H:=h
 clear h
 replace H:=jq8.mp H
 obtain⟨⟨t102,t103,t106,t109,t112,t115⟩,A20,H⟩:=H
 try dsimp only at H
 have A2:=X.mk A20
 clear A20
 have HC3:=X.mk H
 clear H
 go_enter Try.func30,Try.ntmps30
 go_upto_region 2 with (first|((with_reducible refine gate_dst (N:=1) rfl ?_);(try (refine gate_guard (by rfl) ?_;dsimp only));refine box_event ?hg (N:=1) ?hd (cs:=#[.slice A0_0 l0_0.length c0_0,.slice A0_1 l0_1.length c0_1,.int .i64 a0_2,.int .i64 a0_3,.string a0_4,.string a0_5,.bool a0_6,.bool a0_7]) (t:=62) ?hr ?_;(case hd=>rfl);(case hg=>rfl);(case hr=>first|(go_simp;done)|(go_simp;rfl));intro gb101 hg w4 hbox hb;have BK101:=X.mk (hbox);have GW101:=X.mk ((by rw[hg];exact(qx (by solve_by_elim only[HB.out,O,U,L])):w.heap.size≤gb101));have GE101:=X.mk ((by rw[hg];exact(qx (by solve_by_elim only[HB.out,O,U,L])):w.heap.size≤gb101));replace HB:=X.mk (qw (by solve_by_elim only[HB.out,O,U,L]) hb);clear hb hbox hg;have hcz5_0:w4.cell? ⟨gb101,0,none⟩ = some (.slice A0_0 l0_0.length c0_0):=(I BK101.out 0).trans rfl;have hcz5_1:w4.cell? ⟨gb101,1,none⟩ = some (.slice A0_1 l0_1.length c0_1):=(I BK101.out 1).trans rfl;have hcz5_2:w4.cell? ⟨gb101,2,none⟩ = some (.int .i64 a0_2):=(I BK101.out 2).trans rfl;have hcz5_3:w4.cell? ⟨gb101,3,none⟩ = some (.int .i64 a0_3):=(I BK101.out 3).trans rfl;have hcz5_4:w4.cell? ⟨gb101,4,none⟩ = some (.string a0_4):=(I BK101.out 4).trans rfl;have hcz5_5:w4.cell? ⟨gb101,5,none⟩ = some (.string a0_5):=(I BK101.out 5).trans rfl;have hcz5_6:w4.cell? ⟨gb101,6,none⟩ = some (.bool a0_6):=(I BK101.out 6).trans rfl;have hcz5_7:w4.cell? ⟨gb101,7,none⟩ = some (.bool a0_7):=(I BK101.out 7).trans rfl;have hfz5_0:=J BK101.out 0;have hfz5_1:=J BK101.out 1;have hfz5_2:=J BK101.out 2;have hfz5_3:=J BK101.out 3;have hfz5_4:=J BK101.out 4;have hfz5_5:=J BK101.out 5;have hfz5_6:=J BK101.out 6;have hfz5_7:=J BK101.out 7)|((with_reducible refine zw (f:=59) rfl ?_);refine goesL_ (some 7) rfl rfl Try.func59 (by kernel_rfl) rfl #[.agg #[.slice A0_0 l0_0.length c0_0,.slice A0_1 l0_1.length c0_1,.int .i64 a0_2,.int .i64 a0_3,.string a0_4,.string a0_5,.bool a0_6,.bool a0_7]] rfl (by(try simp only[jq0,jq1,jq2]);first|done|rfl|(simp only[jq3,jq4];rfl)) ?_;(with_reducible refine(qwj.calls k (fun k_=>k_ < w.heap.size) _ _ l0_0 _ _ l0_1 a0_2 a0_3 a0_4 a0_5 a0_6 a0_7 t102 t103 t106 t109 t112 t115 _ ?side1 ?side2 ?side3 A2.out).mono ?_);(case side1=>exact Kd.V_mk HC0_0.out (Kd.F_below (Kd.C_F k77_heap HR0_0.out) (by solve_by_elim (maxDepth:=20) only[HB.out,O,U,L,qq,GE101.out])));(case side2=>solve_by_elim only[(Kd.C_below HR0_1.out HB.out),Kd.C_alloc,Kd.C_drewN,Kd.C_drew]);(case side3=>exact HC0_1.out);rintro e w6 ⟨v104,v107,v110,v113,rfl,ho0,ho1,ho2,ho3,hb⟩;refine⟨_,rfl,?_⟩;have HO105:=X.mk (Kd.V_lower (Kd.V_mono (ok':=fun k_=>k_≠gb101) ho0 (fun k_ hk_=>Or.elim hk_ (fun hs_=>fun e_=>Nat.not_le.2 hs_ (by rw[e_];exact GW101.out)) (fun hn_=>(Kd.freshB (g:=gb101) (o:=.cells #[.slice A0_0 l0_0.length c0_0,.slice A0_1 l0_1.length c0_1,.int .i64 a0_2,.int .i64 a0_3,.string a0_4,.string a0_5,.bool a0_6,.bool a0_7] 62 (0,0)) (by solve_by_elim only[BK101.out,qj,qk,qz]) k_ hn_)))) (qx (by solve_by_elim (maxDepth:=20) only[HB.out,O,U,L,qq,GE101.out])));have HO108:=X.mk (Kd.V_lower (Kd.V_mono (ok':=fun k_=>k_≠gb101) ho1 (fun k_ hk_=>Or.elim hk_ (fun hs_=>fun e_=>Nat.not_le.2 hs_ (by rw[e_];exact GW101.out)) (fun hn_=>(Kd.freshB (g:=gb101) (o:=.cells #[.slice A0_0 l0_0.length c0_0,.slice A0_1 l0_1.length c0_1,.int .i64 a0_2,.int .i64 a0_3,.string a0_4,.string a0_5,.bool a0_6,.bool a0_7] 62 (0,0)) (by solve_by_elim only[BK101.out,qj,qk,qz]) k_ hn_)))) (qx (by solve_by_elim (maxDepth:=20) only[HB.out,O,U,L,qq,GE101.out])));have HO111:=X.mk (Kd.V_lower (Kd.V_mono (ok':=fun k_=>k_≠gb101) ho2 (fun k_ hk_=>Or.elim hk_ (fun hs_=>fun e_=>Nat.not_le.2 hs_ (by rw[e_];exact GW101.out)) (fun hn_=>(Kd.freshB (g:=gb101) (o:=.cells #[.slice A0_0 l0_0.length c0_0,.slice A0_1 l0_1.length c0_1,.int .i64 a0_2,.int .i64 a0_3,.string a0_4,.string a0_5,.bool a0_6,.bool a0_7] 62 (0,0)) (by solve_by_elim only[BK101.out,qj,qk,qz]) k_ hn_)))) (qx (by solve_by_elim (maxDepth:=20) only[HB.out,O,U,L,qq,GE101.out])));have HO114:=X.mk (Kd.V_lower (Kd.V_mono (ok':=fun k_=>k_≠gb101) ho3 (fun k_ hk_=>Or.elim hk_ (fun hs_=>fun e_=>Nat.not_le.2 hs_ (by rw[e_];exact GW101.out)) (fun hn_=>(Kd.freshB (g:=gb101) (o:=.cells #[.slice A0_0 l0_0.length c0_0,.slice A0_1 l0_1.length c0_1,.int .i64 a0_2,.int .i64 a0_3,.string a0_4,.string a0_5,.bool a0_6,.bool a0_7] 62 (0,0)) (by solve_by_elim only[BK101.out,qj,qk,qz]) k_ hn_)))) (qx (by solve_by_elim (maxDepth:=20) only[HB.out,O,U,L,qq,GE101.out])));replace BK101:=X.mk (kj (g:=gb101) (o:=.cells #[.slice A0_0 l0_0.length c0_0,.slice A0_1 l0_1.length c0_1,.int .i64 a0_2,.int .i64 a0_3,.string a0_4,.string a0_5,.bool a0_6,.bool a0_7] 62 (0,0)) (by solve_by_elim only[BK101.out,qj,qk,qz]) hb);replace HB:=X.mk (qw (by solve_by_elim (maxDepth:=20) only[HB.out,O,U,L,qq,GE101.out]) hb);(try clear hb ho0 ho1 ho2 ho3))|((with_reducible refine gate_dst (N:=3) rfl ?_);(try (refine gate_guard (by rfl) ?_;dsimp only));refine box_event ?hg (N:=3) ?hd (cs:=#[.string (⟨#[]⟩ : ByteArray),.slice none 0 0,.slice none 0 0,.slice none 0 0,.slice none 0 0]) (t:=77) ?hr ?_;(case hd=>rfl);(case hg=>rfl);(case hr=>first|(go_simp;done)|(go_simp;rfl));intro gb116 hg w7 hbox hb;replace HO105:=X.mk (Kd.V_below (Kd.V_elderB (by(with_reducible repeat(first|apply Kd.jx|apply Kd.jw|apply Kd.kz));exact HO105.out) gb116 (Nat.le_of_eq hg.symm)) hb);replace HO108:=X.mk (Kd.V_below (Kd.V_elderB (by(with_reducible repeat(first|apply Kd.jx|apply Kd.jw|apply Kd.kz));exact HO108.out) gb116 (Nat.le_of_eq hg.symm)) hb);replace HO111:=X.mk (Kd.V_below (Kd.V_elderB (by(with_reducible repeat(first|apply Kd.jx|apply Kd.jw|apply Kd.kz));exact HO111.out) gb116 (Nat.le_of_eq hg.symm)) hb);replace HO114:=X.mk (Kd.V_below (Kd.V_elderB (by(with_reducible repeat(first|apply Kd.jx|apply Kd.jw|apply Kd.kz));exact HO114.out) gb116 (Nat.le_of_eq hg.symm)) hb);have BK116:=X.mk (hbox);have GW116:=X.mk ((by rw[hg];exact(qx (by solve_by_elim (maxDepth:=20) only[HB.out,O,U,L,qq,GE101.out])):w.heap.size≤gb116));have GE116:=X.mk ((by rw[hg];exact(qx (by solve_by_elim (maxDepth:=20) only[HB.out,O,U,L,qq,GE101.out])):w.heap.size≤gb116));replace HB:=X.mk (qw (by solve_by_elim (maxDepth:=20) only[HB.out,O,U,L,qq,GE101.out]) hb);have NB101_116:=X.mk ((by rw[hg];exact Nat.ne_of_lt (blk_lt (g:=gb101) (o:=.cells #[.slice A0_0 l0_0.length c0_0,.slice A0_1 l0_1.length c0_1,.int .i64 a0_2,.int .i64 a0_3,.string a0_4,.string a0_5,.bool a0_6,.bool a0_7] 62 (0,0)) (by solve_by_elim only[BK101.out,qj,qk,qz])):gb101≠gb116));have NB116_101:=X.mk ((by rw[hg];exact Nat.ne_of_gt (blk_lt (g:=gb101) (o:=.cells #[.slice A0_0 l0_0.length c0_0,.slice A0_1 l0_1.length c0_1,.int .i64 a0_2,.int .i64 a0_3,.string a0_4,.string a0_5,.bool a0_6,.bool a0_7] 62 (0,0)) (by solve_by_elim only[BK101.out,qj,qk,qz])):gb116≠gb101));replace BK101:=X.mk (kj (g:=gb101) (o:=.cells #[.slice A0_0 l0_0.length c0_0,.slice A0_1 l0_1.length c0_1,.int .i64 a0_2,.int .i64 a0_3,.string a0_4,.string a0_5,.bool a0_6,.bool a0_7] 62 (0,0)) (by solve_by_elim only[BK101.out,qj,qk,qz]) hb);clear hb hbox hg;have hnb8:=NB116_101.out;have hnc8:=NB101_116.out;have hcz9_0:w7.cell? ⟨gb116,0,none⟩ = some (.string (⟨#[]⟩ : ByteArray)):=(I BK116.out 0).trans rfl;have hcz9_1:w7.cell? ⟨gb116,1,none⟩ = some (.slice none 0 0):=(I BK116.out 1).trans rfl;have hcz9_2:w7.cell? ⟨gb116,2,none⟩ = some (.slice none 0 0):=(I BK116.out 2).trans rfl;have hcz9_3:w7.cell? ⟨gb116,3,none⟩ = some (.slice none 0 0):=(I BK116.out 3).trans rfl;have hcz9_4:w7.cell? ⟨gb116,4,none⟩ = some (.slice none 0 0):=(I BK116.out 4).trans rfl;have hfz9_0:=J BK116.out 0;have hfz9_1:=J BK116.out 1;have hfz9_2:=J BK116.out 2;have hfz9_3:=J BK116.out 3;have hfz9_4:=J BK116.out 4;obtain⟨Ao10,co10,eo10⟩:=Kd.V_slice HO105.out;subst eo10;obtain⟨Ao11,co11,eo11⟩:=Kd.V_slice HO108.out;subst eo11;obtain⟨Ao12,co12,eo12⟩:=Kd.V_slice HO111.out;subst eo12;obtain⟨Ao13,co13,eo13⟩:=Kd.V_slice HO114.out;subst eo13))
 (try simp only[Act.put,jq5,jq6,jq7])
 go_cut [40] (fun v40 wc=>∃ (kq:Nat) (x40_2:Bool),v40=.bool x40_2∧X (qkx.j0 kq x40_2 l0_0 l0_1 a0_2 a0_3 a0_4 a0_5 a0_6 a0_7 t102 t103 t106 t109 t112=some r)∧X (kq≤k)∧X (Kd.V (Kd.int .u8) 5 wc w.heap.size (fun k_=>k_≠gb101∧k_≠gb116) (.slice Ao10 t103.length co10) t103)∧X (Kd.V Kd.string 9 wc w.heap.size (fun k_=>k_≠gb101∧k_≠gb116) (.slice Ao11 t106.length co11) t106)∧X (Kd.V Kd.string 9 wc w.heap.size (fun k_=>k_≠gb101∧k_≠gb116) (.slice Ao12 t109.length co12) t109)∧X (Kd.V (Kd.int .i64) 3 wc w.heap.size (fun k_=>k_≠gb101∧k_≠gb116) (.slice Ao13 t112.length co13) t112)∧X (wc.heap[gb101]? = some (.cells #[(.slice A0_0 l0_0.length c0_0),(.slice A0_1 l0_1.length c0_1),.int .i64 a0_2,.int .i64 a0_3,.string a0_4,.string a0_5,.bool a0_6,.bool a0_7] 62 (0,0)))∧X (wc.heap[gb116]? = some (.cells #[.string t102,(.slice Ao10 t103.length co10),(.slice Ao11 t106.length co11),(.slice Ao12 t109.length co12),(.slice Ao13 t112.length co13)] 77 (0,0)))∧X (Below w.heap.size w wc))
 case first =>
  have H:=HC3.out
  clear HC3
  by_cases c14:t115=true
  ·subst c14
   have H1:((qvz.f k l0_0 l0_1 a0_2 a0_3).bind fun t117=>(if t117=true then(if (t106.length:Int)=0 then(qkx.j0 k true l0_0 l0_1 a0_2 a0_3 a0_4 a0_5 a0_6 a0_7 t102 t103 t106 t109 t112) else(if (t109.length:Int)=0 then(qkx.j0 k true l0_0 l0_1 a0_2 a0_3 a0_4 a0_5 a0_6 a0_7 t102 t103 t106 t109 t112) else((qvj.f k t102 t103 t106 t109 t112 1).bind fun t118=>(if t118=true then(qkx.j0 k (decide ((a0_5.size:Int) > 200)) l0_0 l0_1 a0_2 a0_3 a0_4 a0_5 a0_6 a0_7 t102 t103 t106 t109 t112) else(qkx.j0 k true l0_0 l0_1 a0_2 a0_3 a0_4 a0_5 a0_6 a0_7 t102 t103 t106 t109 t112))))) else(qkx.j0 k true l0_0 l0_1 a0_2 a0_3 a0_4 a0_5 a0_6 a0_7 t102 t103 t106 t109 t112)))=some r:=by rw[if_pos rfl] at H;exact H
   clear H
   have H:=H1
   clear H1
   replace H:=jq8.mp H
   obtain⟨t117,A150,H⟩:=H
   try dsimp only at H
   have A15:=X.mk A150
   clear A150
   by_cases c16:t117=true
   ·subst c16
    have H1:(if (t106.length:Int)=0 then(qkx.j0 k true l0_0 l0_1 a0_2 a0_3 a0_4 a0_5 a0_6 a0_7 t102 t103 t106 t109 t112) else(if (t109.length:Int)=0 then(qkx.j0 k true l0_0 l0_1 a0_2 a0_3 a0_4 a0_5 a0_6 a0_7 t102 t103 t106 t109 t112) else((qvj.f k t102 t103 t106 t109 t112 1).bind fun t118=>(if t118=true then(qkx.j0 k (decide ((a0_5.size:Int) > 200)) l0_0 l0_1 a0_2 a0_3 a0_4 a0_5 a0_6 a0_7 t102 t103 t106 t109 t112) else(qkx.j0 k true l0_0 l0_1 a0_2 a0_3 a0_4 a0_5 a0_6 a0_7 t102 t103 t106 t109 t112)))))=some r:=by rw[if_pos rfl] at H;exact H
    clear H
    have H:=H1
    clear H1
    by_cases c17:(t106.length:Int)=0
    ·rw[if_pos c17] at H
     have c17b0:((t106.length:Int) == 0)=true:=beq_iff_eq.mpr c17
     have c17b1:((t106.length:Int) != 0)=false:=bne_eq_false_iff_eq.mpr c17
     clear c17
     (first|rw[c17b0]|(simp only[i64_w,i32_w];rw[c17b0])|skip)
     have H':=X.mk H
     clear H
     have hnb18:=NB101_116.out
     have hnc18:=NB116_101.out
     have hcz19_0:w7.cell? ⟨gb101,0,none⟩ = some (.slice A0_0 l0_0.length c0_0):=(I BK101.out 0).trans rfl
     have hcz19_1:w7.cell? ⟨gb101,1,none⟩ = some (.slice A0_1 l0_1.length c0_1):=(I BK101.out 1).trans rfl
     have hcz19_2:w7.cell? ⟨gb101,2,none⟩ = some (.int .i64 a0_2):=(I BK101.out 2).trans rfl
     have hcz19_3:w7.cell? ⟨gb101,3,none⟩ = some (.int .i64 a0_3):=(I BK101.out 3).trans rfl
     have hcz19_4:w7.cell? ⟨gb101,4,none⟩ = some (.string a0_4):=(I BK101.out 4).trans rfl
     have hcz19_5:w7.cell? ⟨gb101,5,none⟩ = some (.string a0_5):=(I BK101.out 5).trans rfl
     have hcz19_6:w7.cell? ⟨gb101,6,none⟩ = some (.bool a0_6):=(I BK101.out 6).trans rfl
     have hcz19_7:w7.cell? ⟨gb101,7,none⟩ = some (.bool a0_7):=(I BK101.out 7).trans rfl
     have hfz19_0:=J BK101.out 0
     have hfz19_1:=J BK101.out 1
     have hfz19_2:=J BK101.out 2
     have hfz19_3:=J BK101.out 3
     have hfz19_4:=J BK101.out 4
     have hfz19_5:=J BK101.out 5
     have hfz19_6:=J BK101.out 6
     have hfz19_7:=J BK101.out 7
     go_wp2_with (first|(go_at_call 19;(with_reducible refine(qvz.calls k _ _ l0_0 _ _ l0_1 a0_2 a0_3 true _ ?side1 ?side2 ?side3 ?side4 A15.out).mono ?_);(case side1=>exact Kd.C_below HR0_0.out (by solve_by_elim (maxDepth:=20) only[HB.out,O,U,L,qq,GE101.out,qq,GE116.out]));(case side2=>exact HC0_0.out);(case side3=>exact Kd.C_below HR0_1.out (by solve_by_elim (maxDepth:=20) only[HB.out,O,U,L,qq,GE101.out,qq,GE116.out]));(case side4=>exact HC0_1.out);rintro e w20 ⟨rfl,hb⟩;replace HO105:=X.mk (Kd.V_below (by(with_reducible repeat(first|apply Kd.jx|apply Kd.jw|apply Kd.kz));exact(Kd.V_mono (Kd.V_far (p:=⟨gb116,4,none⟩) (Kd.V_far (p:=⟨gb116,3,none⟩) (Kd.V_far (p:=⟨gb116,2,none⟩) (Kd.V_far (p:=⟨gb116,1,none⟩) (Kd.V_far (p:=⟨gb116,0,none⟩) (Kd.V_mono HO105.out (fun k_ hk=>(⟨hk,hk.2⟩ : _∧k_≠gb116))) (fun _ hk=>hk.2) (.string t102)) (fun _ hk=>hk.2) (.slice Ao10 t103.length co10)) (fun _ hk=>hk.2) (.slice Ao11 t106.length co11)) (fun _ hk=>hk.2) (.slice Ao12 t109.length co12)) (fun _ hk=>hk.2) (.slice Ao13 t112.length co13)) (fun _ h_=>h_.1))) hb);replace HO108:=X.mk (Kd.V_below (by(with_reducible repeat(first|apply Kd.jx|apply Kd.jw|apply Kd.kz));exact(Kd.V_mono (Kd.V_far (p:=⟨gb116,4,none⟩) (Kd.V_far (p:=⟨gb116,3,none⟩) (Kd.V_far (p:=⟨gb116,2,none⟩) (Kd.V_far (p:=⟨gb116,1,none⟩) (Kd.V_far (p:=⟨gb116,0,none⟩) (Kd.V_mono HO108.out (fun k_ hk=>(⟨hk,hk.2⟩ : _∧k_≠gb116))) (fun _ hk=>hk.2) (.string t102)) (fun _ hk=>hk.2) (.slice Ao10 t103.length co10)) (fun _ hk=>hk.2) (.slice Ao11 t106.length co11)) (fun _ hk=>hk.2) (.slice Ao12 t109.length co12)) (fun _ hk=>hk.2) (.slice Ao13 t112.length co13)) (fun _ h_=>h_.1))) hb);replace HO111:=X.mk (Kd.V_below (by(with_reducible repeat(first|apply Kd.jx|apply Kd.jw|apply Kd.kz));exact(Kd.V_mono (Kd.V_far (p:=⟨gb116,4,none⟩) (Kd.V_far (p:=⟨gb116,3,none⟩) (Kd.V_far (p:=⟨gb116,2,none⟩) (Kd.V_far (p:=⟨gb116,1,none⟩) (Kd.V_far (p:=⟨gb116,0,none⟩) (Kd.V_mono HO111.out (fun k_ hk=>(⟨hk,hk.2⟩ : _∧k_≠gb116))) (fun _ hk=>hk.2) (.string t102)) (fun _ hk=>hk.2) (.slice Ao10 t103.length co10)) (fun _ hk=>hk.2) (.slice Ao11 t106.length co11)) (fun _ hk=>hk.2) (.slice Ao12 t109.length co12)) (fun _ hk=>hk.2) (.slice Ao13 t112.length co13)) (fun _ h_=>h_.1))) hb);replace HO114:=X.mk (Kd.V_below (by(with_reducible repeat(first|apply Kd.jx|apply Kd.jw|apply Kd.kz));exact(Kd.V_mono (Kd.V_far (p:=⟨gb116,4,none⟩) (Kd.V_far (p:=⟨gb116,3,none⟩) (Kd.V_far (p:=⟨gb116,2,none⟩) (Kd.V_far (p:=⟨gb116,1,none⟩) (Kd.V_far (p:=⟨gb116,0,none⟩) (Kd.V_mono HO114.out (fun k_ hk=>(⟨hk,hk.2⟩ : _∧k_≠gb116))) (fun _ hk=>hk.2) (.string t102)) (fun _ hk=>hk.2) (.slice Ao10 t103.length co10)) (fun _ hk=>hk.2) (.slice Ao11 t106.length co11)) (fun _ hk=>hk.2) (.slice Ao12 t109.length co12)) (fun _ hk=>hk.2) (.slice Ao13 t112.length co13)) (fun _ h_=>h_.1))) hb);replace BK101:=X.mk (kj (g:=gb101) (o:=.cells #[.slice A0_0 l0_0.length c0_0,.slice A0_1 l0_1.length c0_1,.int .i64 a0_2,.int .i64 a0_3,.string a0_4,.string a0_5,.bool a0_6,.bool a0_7] 62 (0,0)) (by(with_reducible repeat(first|refine qj ?_ _|refine qk ?_|refine qz ?_ _));refine blk_far ?_ NB101_116.out _;(with_reducible repeat(first|refine qj ?_ _|refine qk ?_|refine qz ?_ _));refine blk_far ?_ NB101_116.out _;(with_reducible repeat(first|refine qj ?_ _|refine qk ?_|refine qz ?_ _));refine blk_far ?_ NB101_116.out _;(with_reducible repeat(first|refine qj ?_ _|refine qk ?_|refine qz ?_ _));refine blk_far ?_ NB101_116.out _;(with_reducible repeat(first|refine qj ?_ _|refine qk ?_|refine qz ?_ _));refine blk_far ?_ NB101_116.out _;(with_reducible repeat(first|refine qj ?_ _|refine qk ?_|refine qz ?_ _));exact BK101.out) hb);replace BK116:=X.mk (kj (g:=gb116) (o:=.cells #[.string t102,.slice Ao10 t103.length co10,.slice Ao11 t106.length co11,.slice Ao12 t109.length co12,.slice Ao13 t112.length co13] 77 (0,0)) (by(with_reducible repeat(first|refine qj ?_ _|refine qk ?_|refine qz ?_ _));refine blk_put (cs:=#[.string t102,.slice Ao10 t103.length co10,.slice Ao11 t106.length co11,.slice Ao12 t109.length co12,.slice none 0 0]) ?_ 4 _ rfl;(with_reducible repeat(first|refine qj ?_ _|refine qk ?_|refine qz ?_ _));refine blk_put (cs:=#[.string t102,.slice Ao10 t103.length co10,.slice Ao11 t106.length co11,.slice none 0 0,.slice none 0 0]) ?_ 3 _ rfl;(with_reducible repeat(first|refine qj ?_ _|refine qk ?_|refine qz ?_ _));refine blk_put (cs:=#[.string t102,.slice Ao10 t103.length co10,.slice none 0 0,.slice none 0 0,.slice none 0 0]) ?_ 2 _ rfl;(with_reducible repeat(first|refine qj ?_ _|refine qk ?_|refine qz ?_ _));refine blk_put (cs:=#[.string t102,.slice none 0 0,.slice none 0 0,.slice none 0 0,.slice none 0 0]) ?_ 1 _ rfl;(with_reducible repeat(first|refine qj ?_ _|refine qk ?_|refine qz ?_ _));refine blk_put (cs:=#[.string (⟨#[]⟩ : ByteArray),.slice none 0 0,.slice none 0 0,.slice none 0 0,.slice none 0 0]) ?_ 0 _ rfl;(with_reducible repeat(first|refine qj ?_ _|refine qk ?_|refine qz ?_ _));exact BK116.out) hb);replace HB:=X.mk (qw (by solve_by_elim (maxDepth:=20) only[HB.out,O,U,L,qq,GE101.out,qq,GE116.out]) hb);(try clear hb);have hcz21_0:w20.cell? ⟨gb116,0,none⟩ = some (.string t102):=(I BK116.out 0).trans rfl;have hcz21_1:w20.cell? ⟨gb116,1,none⟩ = some (.slice Ao10 t103.length co10):=(I BK116.out 1).trans rfl;have hcz21_2:w20.cell? ⟨gb116,2,none⟩ = some (.slice Ao11 t106.length co11):=(I BK116.out 2).trans rfl;have hcz21_3:w20.cell? ⟨gb116,3,none⟩ = some (.slice Ao12 t109.length co12):=(I BK116.out 3).trans rfl;have hcz21_4:w20.cell? ⟨gb116,4,none⟩ = some (.slice Ao13 t112.length co13):=(I BK116.out 4).trans rfl;have hfz21_0:=J BK116.out 0;have hfz21_1:=J BK116.out 1;have hfz21_2:=J BK116.out 2;have hfz21_3:=J BK116.out 3;have hfz21_4:=J BK116.out 4))
     go_meet
     case rel=>exact⟨_,(true),(by first|rfl|(simp;done)|(simp[*];done)|(generalize ByteArray.toList _=l_;cases l_ <;> first|rfl|(simp;done))),H',⟨by first|omega|exact Nat.le_refl _⟩,⟨by(with_reducible repeat(first|apply Kd.jx|apply Kd.jw|apply Kd.kz));exact HO105.out⟩,⟨by(with_reducible repeat(first|apply Kd.jx|apply Kd.jw|apply Kd.kz));exact HO108.out⟩,⟨by(with_reducible repeat(first|apply Kd.jx|apply Kd.jw|apply Kd.kz));exact HO111.out⟩,⟨by(with_reducible repeat(first|apply Kd.jx|apply Kd.jw|apply Kd.kz));exact HO114.out⟩,⟨by(with_reducible repeat(first|refine qj ?_ _|refine qk ?_|refine qz ?_ _));exact BK101.out⟩,⟨by(with_reducible repeat(first|refine qj ?_ _|refine qk ?_|refine qz ?_ _));exact BK116.out⟩,⟨by repeat(first|(with_reducible first|exact HB.out|apply O|apply U|apply L|refine qq ?_ GE101.out|refine qq ?_ GE116.out)|exact HB.out)⟩⟩
    ·rw[if_neg c17] at H
     have c17b0:((t106.length:Int) == 0)=false:=beq_eq_false_iff_ne.mpr c17
     have c17b1:((t106.length:Int) != 0)=true:=bne_iff_ne.mpr c17
     have c17b2:¬ (t106=[]):=fun h_=>c17 (by rw[h_];rfl)
     (first|rw[c17b0]|(simp only[i64_w,i32_w];rw[c17b0])|skip)
     by_cases c22:(t109.length:Int)=0
     ·rw[if_pos c22] at H
      have c22b0:((t109.length:Int) == 0)=true:=beq_iff_eq.mpr c22
      have c22b1:((t109.length:Int) != 0)=false:=bne_eq_false_iff_eq.mpr c22
      clear c22
      have H':=X.mk H
      clear H
      have hnb23:=NB101_116.out
      have hnc23:=NB116_101.out
      have hcz24_0:w7.cell? ⟨gb101,0,none⟩ = some (.slice A0_0 l0_0.length c0_0):=(I BK101.out 0).trans rfl
      have hcz24_1:w7.cell? ⟨gb101,1,none⟩ = some (.slice A0_1 l0_1.length c0_1):=(I BK101.out 1).trans rfl
      have hcz24_2:w7.cell? ⟨gb101,2,none⟩ = some (.int .i64 a0_2):=(I BK101.out 2).trans rfl
      have hcz24_3:w7.cell? ⟨gb101,3,none⟩ = some (.int .i64 a0_3):=(I BK101.out 3).trans rfl
      have hcz24_4:w7.cell? ⟨gb101,4,none⟩ = some (.string a0_4):=(I BK101.out 4).trans rfl
      have hcz24_5:w7.cell? ⟨gb101,5,none⟩ = some (.string a0_5):=(I BK101.out 5).trans rfl
      have hcz24_6:w7.cell? ⟨gb101,6,none⟩ = some (.bool a0_6):=(I BK101.out 6).trans rfl
      have hcz24_7:w7.cell? ⟨gb101,7,none⟩ = some (.bool a0_7):=(I BK101.out 7).trans rfl
      have hfz24_0:=J BK101.out 0
      have hfz24_1:=J BK101.out 1
      have hfz24_2:=J BK101.out 2
      have hfz24_3:=J BK101.out 3
      have hfz24_4:=J BK101.out 4
      have hfz24_5:=J BK101.out 5
      have hfz24_6:=J BK101.out 6
      have hfz24_7:=J BK101.out 7
      go_wp2_with (first|(go_at_call 19;(with_reducible refine(qvz.calls k _ _ l0_0 _ _ l0_1 a0_2 a0_3 true _ ?side1 ?side2 ?side3 ?side4 A15.out).mono ?_);(case side1=>exact Kd.C_below HR0_0.out (by solve_by_elim (maxDepth:=20) only[HB.out,O,U,L,qq,GE101.out,qq,GE116.out]));(case side2=>exact HC0_0.out);(case side3=>exact Kd.C_below HR0_1.out (by solve_by_elim (maxDepth:=20) only[HB.out,O,U,L,qq,GE101.out,qq,GE116.out]));(case side4=>exact HC0_1.out);rintro e w25 ⟨rfl,hb⟩;replace HO105:=X.mk (Kd.V_below (by(with_reducible repeat(first|apply Kd.jx|apply Kd.jw|apply Kd.kz));exact(Kd.V_mono (Kd.V_far (p:=⟨gb116,4,none⟩) (Kd.V_far (p:=⟨gb116,3,none⟩) (Kd.V_far (p:=⟨gb116,2,none⟩) (Kd.V_far (p:=⟨gb116,1,none⟩) (Kd.V_far (p:=⟨gb116,0,none⟩) (Kd.V_mono HO105.out (fun k_ hk=>(⟨hk,hk.2⟩ : _∧k_≠gb116))) (fun _ hk=>hk.2) (.string t102)) (fun _ hk=>hk.2) (.slice Ao10 t103.length co10)) (fun _ hk=>hk.2) (.slice Ao11 t106.length co11)) (fun _ hk=>hk.2) (.slice Ao12 t109.length co12)) (fun _ hk=>hk.2) (.slice Ao13 t112.length co13)) (fun _ h_=>h_.1))) hb);replace HO108:=X.mk (Kd.V_below (by(with_reducible repeat(first|apply Kd.jx|apply Kd.jw|apply Kd.kz));exact(Kd.V_mono (Kd.V_far (p:=⟨gb116,4,none⟩) (Kd.V_far (p:=⟨gb116,3,none⟩) (Kd.V_far (p:=⟨gb116,2,none⟩) (Kd.V_far (p:=⟨gb116,1,none⟩) (Kd.V_far (p:=⟨gb116,0,none⟩) (Kd.V_mono HO108.out (fun k_ hk=>(⟨hk,hk.2⟩ : _∧k_≠gb116))) (fun _ hk=>hk.2) (.string t102)) (fun _ hk=>hk.2) (.slice Ao10 t103.length co10)) (fun _ hk=>hk.2) (.slice Ao11 t106.length co11)) (fun _ hk=>hk.2) (.slice Ao12 t109.length co12)) (fun _ hk=>hk.2) (.slice Ao13 t112.length co13)) (fun _ h_=>h_.1))) hb);replace HO111:=X.mk (Kd.V_below (by(with_reducible repeat(first|apply Kd.jx|apply Kd.jw|apply Kd.kz));exact(Kd.V_mono (Kd.V_far (p:=⟨gb116,4,none⟩) (Kd.V_far (p:=⟨gb116,3,none⟩) (Kd.V_far (p:=⟨gb116,2,none⟩) (Kd.V_far (p:=⟨gb116,1,none⟩) (Kd.V_far (p:=⟨gb116,0,none⟩) (Kd.V_mono HO111.out (fun k_ hk=>(⟨hk,hk.2⟩ : _∧k_≠gb116))) (fun _ hk=>hk.2) (.string t102)) (fun _ hk=>hk.2) (.slice Ao10 t103.length co10)) (fun _ hk=>hk.2) (.slice Ao11 t106.length co11)) (fun _ hk=>hk.2) (.slice Ao12 t109.length co12)) (fun _ hk=>hk.2) (.slice Ao13 t112.length co13)) (fun _ h_=>h_.1))) hb);replace HO114:=X.mk (Kd.V_below (by(with_reducible repeat(first|apply Kd.jx|apply Kd.jw|apply Kd.kz));exact(Kd.V_mono (Kd.V_far (p:=⟨gb116,4,none⟩) (Kd.V_far (p:=⟨gb116,3,none⟩) (Kd.V_far (p:=⟨gb116,2,none⟩) (Kd.V_far (p:=⟨gb116,1,none⟩) (Kd.V_far (p:=⟨gb116,0,none⟩) (Kd.V_mono HO114.out (fun k_ hk=>(⟨hk,hk.2⟩ : _∧k_≠gb116))) (fun _ hk=>hk.2) (.string t102)) (fun _ hk=>hk.2) (.slice Ao10 t103.length co10)) (fun _ hk=>hk.2) (.slice Ao11 t106.length co11)) (fun _ hk=>hk.2) (.slice Ao12 t109.length co12)) (fun _ hk=>hk.2) (.slice Ao13 t112.length co13)) (fun _ h_=>h_.1))) hb);replace BK101:=X.mk (kj (g:=gb101) (o:=.cells #[.slice A0_0 l0_0.length c0_0,.slice A0_1 l0_1.length c0_1,.int .i64 a0_2,.int .i64 a0_3,.string a0_4,.string a0_5,.bool a0_6,.bool a0_7] 62 (0,0)) (by(with_reducible repeat(first|refine qj ?_ _|refine qk ?_|refine qz ?_ _));refine blk_far ?_ NB101_116.out _;(with_reducible repeat(first|refine qj ?_ _|refine qk ?_|refine qz ?_ _));refine blk_far ?_ NB101_116.out _;(with_reducible repeat(first|refine qj ?_ _|refine qk ?_|refine qz ?_ _));refine blk_far ?_ NB101_116.out _;(with_reducible repeat(first|refine qj ?_ _|refine qk ?_|refine qz ?_ _));refine blk_far ?_ NB101_116.out _;(with_reducible repeat(first|refine qj ?_ _|refine qk ?_|refine qz ?_ _));refine blk_far ?_ NB101_116.out _;(with_reducible repeat(first|refine qj ?_ _|refine qk ?_|refine qz ?_ _));exact BK101.out) hb);replace BK116:=X.mk (kj (g:=gb116) (o:=.cells #[.string t102,.slice Ao10 t103.length co10,.slice Ao11 t106.length co11,.slice Ao12 t109.length co12,.slice Ao13 t112.length co13] 77 (0,0)) (by(with_reducible repeat(first|refine qj ?_ _|refine qk ?_|refine qz ?_ _));refine blk_put (cs:=#[.string t102,.slice Ao10 t103.length co10,.slice Ao11 t106.length co11,.slice Ao12 t109.length co12,.slice none 0 0]) ?_ 4 _ rfl;(with_reducible repeat(first|refine qj ?_ _|refine qk ?_|refine qz ?_ _));refine blk_put (cs:=#[.string t102,.slice Ao10 t103.length co10,.slice Ao11 t106.length co11,.slice none 0 0,.slice none 0 0]) ?_ 3 _ rfl;(with_reducible repeat(first|refine qj ?_ _|refine qk ?_|refine qz ?_ _));refine blk_put (cs:=#[.string t102,.slice Ao10 t103.length co10,.slice none 0 0,.slice none 0 0,.slice none 0 0]) ?_ 2 _ rfl;(with_reducible repeat(first|refine qj ?_ _|refine qk ?_|refine qz ?_ _));refine blk_put (cs:=#[.string t102,.slice none 0 0,.slice none 0 0,.slice none 0 0,.slice none 0 0]) ?_ 1 _ rfl;(with_reducible repeat(first|refine qj ?_ _|refine qk ?_|refine qz ?_ _));refine blk_put (cs:=#[.string (⟨#[]⟩ : ByteArray),.slice none 0 0,.slice none 0 0,.slice none 0 0,.slice none 0 0]) ?_ 0 _ rfl;(with_reducible repeat(first|refine qj ?_ _|refine qk ?_|refine qz ?_ _));exact BK116.out) hb);replace HB:=X.mk (qw (by solve_by_elim (maxDepth:=20) only[HB.out,O,U,L,qq,GE101.out,qq,GE116.out]) hb);(try clear hb);have hcz26_0:w25.cell? ⟨gb116,0,none⟩ = some (.string t102):=(I BK116.out 0).trans rfl;have hcz26_1:w25.cell? ⟨gb116,1,none⟩ = some (.slice Ao10 t103.length co10):=(I BK116.out 1).trans rfl;have hcz26_2:w25.cell? ⟨gb116,2,none⟩ = some (.slice Ao11 t106.length co11):=(I BK116.out 2).trans rfl;have hcz26_3:w25.cell? ⟨gb116,3,none⟩ = some (.slice Ao12 t109.length co12):=(I BK116.out 3).trans rfl;have hcz26_4:w25.cell? ⟨gb116,4,none⟩ = some (.slice Ao13 t112.length co13):=(I BK116.out 4).trans rfl;have hfz26_0:=J BK116.out 0;have hfz26_1:=J BK116.out 1;have hfz26_2:=J BK116.out 2;have hfz26_3:=J BK116.out 3;have hfz26_4:=J BK116.out 4))
      go_meet
      case rel=>exact⟨_,(true),(by first|rfl|(simp;done)|(simp[*];done)|(generalize ByteArray.toList _=l_;cases l_ <;> first|rfl|(simp;done))),H',⟨by first|omega|exact Nat.le_refl _⟩,⟨by(with_reducible repeat(first|apply Kd.jx|apply Kd.jw|apply Kd.kz));exact HO105.out⟩,⟨by(with_reducible repeat(first|apply Kd.jx|apply Kd.jw|apply Kd.kz));exact HO108.out⟩,⟨by(with_reducible repeat(first|apply Kd.jx|apply Kd.jw|apply Kd.kz));exact HO111.out⟩,⟨by(with_reducible repeat(first|apply Kd.jx|apply Kd.jw|apply Kd.kz));exact HO114.out⟩,⟨by(with_reducible repeat(first|refine qj ?_ _|refine qk ?_|refine qz ?_ _));exact BK101.out⟩,⟨by(with_reducible repeat(first|refine qj ?_ _|refine qk ?_|refine qz ?_ _));exact BK116.out⟩,⟨by repeat(first|(with_reducible first|exact HB.out|apply O|apply U|apply L|refine qq ?_ GE101.out|refine qq ?_ GE116.out)|exact HB.out)⟩⟩
     ·rw[if_neg c22] at H
      have c22b0:((t109.length:Int) == 0)=false:=beq_eq_false_iff_ne.mpr c22
      have c22b1:((t109.length:Int) != 0)=true:=bne_iff_ne.mpr c22
      have c22b2:¬ (t109=[]):=fun h_=>c22 (by rw[h_];rfl)
      replace H:=jq8.mp H
      obtain⟨t118,A270,H⟩:=H
      try dsimp only at H
      have A27:=X.mk A270
      clear A270
      by_cases c28:t118=true
      ·subst c28
       have H1:(qkx.j0 k (decide ((a0_5.size:Int) > 200)) l0_0 l0_1 a0_2 a0_3 a0_4 a0_5 a0_6 a0_7 t102 t103 t106 t109 t112)=some r:=by rw[if_pos rfl] at H;exact H
       clear H
       have H:=H1
       clear H1
       have H':=X.mk H
       clear H
       have hnb29:=NB101_116.out
       have hnc29:=NB116_101.out
       have hcz30_0:w7.cell? ⟨gb101,0,none⟩ = some (.slice A0_0 l0_0.length c0_0):=(I BK101.out 0).trans rfl
       have hcz30_1:w7.cell? ⟨gb101,1,none⟩ = some (.slice A0_1 l0_1.length c0_1):=(I BK101.out 1).trans rfl
       have hcz30_2:w7.cell? ⟨gb101,2,none⟩ = some (.int .i64 a0_2):=(I BK101.out 2).trans rfl
       have hcz30_3:w7.cell? ⟨gb101,3,none⟩ = some (.int .i64 a0_3):=(I BK101.out 3).trans rfl
       have hcz30_4:w7.cell? ⟨gb101,4,none⟩ = some (.string a0_4):=(I BK101.out 4).trans rfl
       have hcz30_5:w7.cell? ⟨gb101,5,none⟩ = some (.string a0_5):=(I BK101.out 5).trans rfl
       have hcz30_6:w7.cell? ⟨gb101,6,none⟩ = some (.bool a0_6):=(I BK101.out 6).trans rfl
       have hcz30_7:w7.cell? ⟨gb101,7,none⟩ = some (.bool a0_7):=(I BK101.out 7).trans rfl
       have hfz30_0:=J BK101.out 0
       have hfz30_1:=J BK101.out 1
       have hfz30_2:=J BK101.out 2
       have hfz30_3:=J BK101.out 3
       have hfz30_4:=J BK101.out 4
       have hfz30_5:=J BK101.out 5
       have hfz30_6:=J BK101.out 6
       have hfz30_7:=J BK101.out 7
       go_wp2_with (first|(go_at_call 19;(with_reducible refine(qvz.calls k _ _ l0_0 _ _ l0_1 a0_2 a0_3 true _ ?side1 ?side2 ?side3 ?side4 A15.out).mono ?_);(case side1=>exact Kd.C_below HR0_0.out (by solve_by_elim (maxDepth:=20) only[HB.out,O,U,L,qq,GE101.out,qq,GE116.out]));(case side2=>exact HC0_0.out);(case side3=>exact Kd.C_below HR0_1.out (by solve_by_elim (maxDepth:=20) only[HB.out,O,U,L,qq,GE101.out,qq,GE116.out]));(case side4=>exact HC0_1.out);rintro e w31 ⟨rfl,hb⟩;replace HO105:=X.mk (Kd.V_below (by(with_reducible repeat(first|apply Kd.jx|apply Kd.jw|apply Kd.kz));exact(Kd.V_mono (Kd.V_far (p:=⟨gb116,4,none⟩) (Kd.V_far (p:=⟨gb116,3,none⟩) (Kd.V_far (p:=⟨gb116,2,none⟩) (Kd.V_far (p:=⟨gb116,1,none⟩) (Kd.V_far (p:=⟨gb116,0,none⟩) (Kd.V_mono HO105.out (fun k_ hk=>(⟨hk,hk.2⟩ : _∧k_≠gb116))) (fun _ hk=>hk.2) (.string t102)) (fun _ hk=>hk.2) (.slice Ao10 t103.length co10)) (fun _ hk=>hk.2) (.slice Ao11 t106.length co11)) (fun _ hk=>hk.2) (.slice Ao12 t109.length co12)) (fun _ hk=>hk.2) (.slice Ao13 t112.length co13)) (fun _ h_=>h_.1))) hb);replace HO108:=X.mk (Kd.V_below (by(with_reducible repeat(first|apply Kd.jx|apply Kd.jw|apply Kd.kz));exact(Kd.V_mono (Kd.V_far (p:=⟨gb116,4,none⟩) (Kd.V_far (p:=⟨gb116,3,none⟩) (Kd.V_far (p:=⟨gb116,2,none⟩) (Kd.V_far (p:=⟨gb116,1,none⟩) (Kd.V_far (p:=⟨gb116,0,none⟩) (Kd.V_mono HO108.out (fun k_ hk=>(⟨hk,hk.2⟩ : _∧k_≠gb116))) (fun _ hk=>hk.2) (.string t102)) (fun _ hk=>hk.2) (.slice Ao10 t103.length co10)) (fun _ hk=>hk.2) (.slice Ao11 t106.length co11)) (fun _ hk=>hk.2) (.slice Ao12 t109.length co12)) (fun _ hk=>hk.2) (.slice Ao13 t112.length co13)) (fun _ h_=>h_.1))) hb);replace HO111:=X.mk (Kd.V_below (by(with_reducible repeat(first|apply Kd.jx|apply Kd.jw|apply Kd.kz));exact(Kd.V_mono (Kd.V_far (p:=⟨gb116,4,none⟩) (Kd.V_far (p:=⟨gb116,3,none⟩) (Kd.V_far (p:=⟨gb116,2,none⟩) (Kd.V_far (p:=⟨gb116,1,none⟩) (Kd.V_far (p:=⟨gb116,0,none⟩) (Kd.V_mono HO111.out (fun k_ hk=>(⟨hk,hk.2⟩ : _∧k_≠gb116))) (fun _ hk=>hk.2) (.string t102)) (fun _ hk=>hk.2) (.slice Ao10 t103.length co10)) (fun _ hk=>hk.2) (.slice Ao11 t106.length co11)) (fun _ hk=>hk.2) (.slice Ao12 t109.length co12)) (fun _ hk=>hk.2) (.slice Ao13 t112.length co13)) (fun _ h_=>h_.1))) hb);replace HO114:=X.mk (Kd.V_below (by(with_reducible repeat(first|apply Kd.jx|apply Kd.jw|apply Kd.kz));exact(Kd.V_mono (Kd.V_far (p:=⟨gb116,4,none⟩) (Kd.V_far (p:=⟨gb116,3,none⟩) (Kd.V_far (p:=⟨gb116,2,none⟩) (Kd.V_far (p:=⟨gb116,1,none⟩) (Kd.V_far (p:=⟨gb116,0,none⟩) (Kd.V_mono HO114.out (fun k_ hk=>(⟨hk,hk.2⟩ : _∧k_≠gb116))) (fun _ hk=>hk.2) (.string t102)) (fun _ hk=>hk.2) (.slice Ao10 t103.length co10)) (fun _ hk=>hk.2) (.slice Ao11 t106.length co11)) (fun _ hk=>hk.2) (.slice Ao12 t109.length co12)) (fun _ hk=>hk.2) (.slice Ao13 t112.length co13)) (fun _ h_=>h_.1))) hb);replace BK101:=X.mk (kj (g:=gb101) (o:=.cells #[.slice A0_0 l0_0.length c0_0,.slice A0_1 l0_1.length c0_1,.int .i64 a0_2,.int .i64 a0_3,.string a0_4,.string a0_5,.bool a0_6,.bool a0_7] 62 (0,0)) (by(with_reducible repeat(first|refine qj ?_ _|refine qk ?_|refine qz ?_ _));refine blk_far ?_ NB101_116.out _;(with_reducible repeat(first|refine qj ?_ _|refine qk ?_|refine qz ?_ _));refine blk_far ?_ NB101_116.out _;(with_reducible repeat(first|refine qj ?_ _|refine qk ?_|refine qz ?_ _));refine blk_far ?_ NB101_116.out _;(with_reducible repeat(first|refine qj ?_ _|refine qk ?_|refine qz ?_ _));refine blk_far ?_ NB101_116.out _;(with_reducible repeat(first|refine qj ?_ _|refine qk ?_|refine qz ?_ _));refine blk_far ?_ NB101_116.out _;(with_reducible repeat(first|refine qj ?_ _|refine qk ?_|refine qz ?_ _));exact BK101.out) hb);replace BK116:=X.mk (kj (g:=gb116) (o:=.cells #[.string t102,.slice Ao10 t103.length co10,.slice Ao11 t106.length co11,.slice Ao12 t109.length co12,.slice Ao13 t112.length co13] 77 (0,0)) (by(with_reducible repeat(first|refine qj ?_ _|refine qk ?_|refine qz ?_ _));refine blk_put (cs:=#[.string t102,.slice Ao10 t103.length co10,.slice Ao11 t106.length co11,.slice Ao12 t109.length co12,.slice none 0 0]) ?_ 4 _ rfl;(with_reducible repeat(first|refine qj ?_ _|refine qk ?_|refine qz ?_ _));refine blk_put (cs:=#[.string t102,.slice Ao10 t103.length co10,.slice Ao11 t106.length co11,.slice none 0 0,.slice none 0 0]) ?_ 3 _ rfl;(with_reducible repeat(first|refine qj ?_ _|refine qk ?_|refine qz ?_ _));refine blk_put (cs:=#[.string t102,.slice Ao10 t103.length co10,.slice none 0 0,.slice none 0 0,.slice none 0 0]) ?_ 2 _ rfl;(with_reducible repeat(first|refine qj ?_ _|refine qk ?_|refine qz ?_ _));refine blk_put (cs:=#[.string t102,.slice none 0 0,.slice none 0 0,.slice none 0 0,.slice none 0 0]) ?_ 1 _ rfl;(with_reducible repeat(first|refine qj ?_ _|refine qk ?_|refine qz ?_ _));refine blk_put (cs:=#[.string (⟨#[]⟩ : ByteArray),.slice none 0 0,.slice none 0 0,.slice none 0 0,.slice none 0 0]) ?_ 0 _ rfl;(with_reducible repeat(first|refine qj ?_ _|refine qk ?_|refine qz ?_ _));exact BK116.out) hb);replace HB:=X.mk (qw (by solve_by_elim (maxDepth:=20) only[HB.out,O,U,L,qq,GE101.out,qq,GE116.out]) hb);(try clear hb);have hcz32_0:w31.cell? ⟨gb116,0,none⟩ = some (.string t102):=(I BK116.out 0).trans rfl;have hcz32_1:w31.cell? ⟨gb116,1,none⟩ = some (.slice Ao10 t103.length co10):=(I BK116.out 1).trans rfl;have hcz32_2:w31.cell? ⟨gb116,2,none⟩ = some (.slice Ao11 t106.length co11):=(I BK116.out 2).trans rfl;have hcz32_3:w31.cell? ⟨gb116,3,none⟩ = some (.slice Ao12 t109.length co12):=(I BK116.out 3).trans rfl;have hcz32_4:w31.cell? ⟨gb116,4,none⟩ = some (.slice Ao13 t112.length co13):=(I BK116.out 4).trans rfl;have hfz32_0:=J BK116.out 0;have hfz32_1:=J BK116.out 1;have hfz32_2:=J BK116.out 2;have hfz32_3:=J BK116.out 3;have hfz32_4:=J BK116.out 4)|(go_at_call 60;(with_reducible refine(qvj.calls k t102 _ _ t103 _ _ t106 _ _ t109 _ _ t112 1 true _ ?side1 ?side2 ?side3 ?side4 ?side5 ?side6 ?side7 ?side8 A27.out).mono ?_);(case side1=>solve_by_elim only[(Kd.V_reads' HO105.out).2.2,Kd.C_alloc,Kd.C_drewN,Kd.C_drew]);(case side2=>exact(Kd.V_reads' HO105.out).2.1);(case side3=>solve_by_elim only[(Kd.V_reads' HO108.out).2.2,Kd.C_alloc,Kd.C_drewN,Kd.C_drew]);(case side4=>exact(Kd.V_reads' HO108.out).2.1);(case side5=>solve_by_elim only[(Kd.V_reads' HO111.out).2.2,Kd.C_alloc,Kd.C_drewN,Kd.C_drew]);(case side6=>exact(Kd.V_reads' HO111.out).2.1);(case side7=>solve_by_elim only[(Kd.V_reads' HO114.out).2.2,Kd.C_alloc,Kd.C_drewN,Kd.C_drew]);(case side8=>exact(Kd.V_reads' HO114.out).2.1);rintro e w33 ⟨rfl,hb⟩;replace HO105:=X.mk (Kd.V_below (by(with_reducible repeat(first|apply Kd.jx|apply Kd.jw|apply Kd.kz));exact HO105.out) hb);replace HO108:=X.mk (Kd.V_below (by(with_reducible repeat(first|apply Kd.jx|apply Kd.jw|apply Kd.kz));exact HO108.out) hb);replace HO111:=X.mk (Kd.V_below (by(with_reducible repeat(first|apply Kd.jx|apply Kd.jw|apply Kd.kz));exact HO111.out) hb);replace HO114:=X.mk (Kd.V_below (by(with_reducible repeat(first|apply Kd.jx|apply Kd.jw|apply Kd.kz));exact HO114.out) hb);replace BK101:=X.mk (kj (g:=gb101) (o:=.cells #[.slice A0_0 l0_0.length c0_0,.slice A0_1 l0_1.length c0_1,.int .i64 a0_2,.int .i64 a0_3,.string a0_4,.string a0_5,.bool a0_6,.bool a0_7] 62 (0,0)) (by solve_by_elim only[BK101.out,qj,qk,qz]) hb);replace BK116:=X.mk (kj (g:=gb116) (o:=.cells #[.string t102,.slice Ao10 t103.length co10,.slice Ao11 t106.length co11,.slice Ao12 t109.length co12,.slice Ao13 t112.length co13] 77 (0,0)) (by solve_by_elim only[BK116.out,qj,qk,qz]) hb);replace HB:=X.mk (qw (by solve_by_elim (maxDepth:=20) only[HB.out,O,U,L,qq,GE101.out,qq,GE116.out]) hb);(try clear hb);have hcz34_0:w33.cell? ⟨gb101,0,none⟩ = some (.slice A0_0 l0_0.length c0_0):=(I BK101.out 0).trans rfl;have hcz34_1:w33.cell? ⟨gb101,1,none⟩ = some (.slice A0_1 l0_1.length c0_1):=(I BK101.out 1).trans rfl;have hcz34_2:w33.cell? ⟨gb101,2,none⟩ = some (.int .i64 a0_2):=(I BK101.out 2).trans rfl;have hcz34_3:w33.cell? ⟨gb101,3,none⟩ = some (.int .i64 a0_3):=(I BK101.out 3).trans rfl;have hcz34_4:w33.cell? ⟨gb101,4,none⟩ = some (.string a0_4):=(I BK101.out 4).trans rfl;have hcz34_5:w33.cell? ⟨gb101,5,none⟩ = some (.string a0_5):=(I BK101.out 5).trans rfl;have hcz34_6:w33.cell? ⟨gb101,6,none⟩ = some (.bool a0_6):=(I BK101.out 6).trans rfl;have hcz34_7:w33.cell? ⟨gb101,7,none⟩ = some (.bool a0_7):=(I BK101.out 7).trans rfl;have hfz34_0:=J BK101.out 0;have hfz34_1:=J BK101.out 1;have hfz34_2:=J BK101.out 2;have hfz34_3:=J BK101.out 3;have hfz34_4:=J BK101.out 4;have hfz34_5:=J BK101.out 5;have hfz34_6:=J BK101.out 6;have hfz34_7:=J BK101.out 7))
       go_meet
       case rel=>exact⟨_,(decide ((a0_5.size:Int) > 200)),(by first|rfl|(simp;done)|(simp[*];done)|(generalize ByteArray.toList _=l_;cases l_ <;> first|rfl|(simp;done))),H',⟨by first|omega|exact Nat.le_refl _⟩,⟨by(with_reducible repeat(first|apply Kd.jx|apply Kd.jw|apply Kd.kz));exact HO105.out⟩,⟨by(with_reducible repeat(first|apply Kd.jx|apply Kd.jw|apply Kd.kz));exact HO108.out⟩,⟨by(with_reducible repeat(first|apply Kd.jx|apply Kd.jw|apply Kd.kz));exact HO111.out⟩,⟨by(with_reducible repeat(first|apply Kd.jx|apply Kd.jw|apply Kd.kz));exact HO114.out⟩,⟨by(with_reducible repeat(first|refine qj ?_ _|refine qk ?_|refine qz ?_ _));exact BK101.out⟩,⟨by(with_reducible repeat(first|refine qj ?_ _|refine qk ?_|refine qz ?_ _));exact BK116.out⟩,⟨by repeat(first|(with_reducible first|exact HB.out|apply O|apply U|apply L|refine qq ?_ GE101.out|refine qq ?_ GE116.out)|exact HB.out)⟩⟩
      ·replace c28:=jq9.mpr c28
       subst c28
       have H1:(qkx.j0 k true l0_0 l0_1 a0_2 a0_3 a0_4 a0_5 a0_6 a0_7 t102 t103 t106 t109 t112)=some r:=by rw[if_neg (show ¬ (false=true) by decide)] at H;exact H
       clear H
       have H:=H1
       clear H1
       have H':=X.mk H
       clear H
       have hnb35:=NB101_116.out
       have hnc35:=NB116_101.out
       have hcz36_0:w7.cell? ⟨gb101,0,none⟩ = some (.slice A0_0 l0_0.length c0_0):=(I BK101.out 0).trans rfl
       have hcz36_1:w7.cell? ⟨gb101,1,none⟩ = some (.slice A0_1 l0_1.length c0_1):=(I BK101.out 1).trans rfl
       have hcz36_2:w7.cell? ⟨gb101,2,none⟩ = some (.int .i64 a0_2):=(I BK101.out 2).trans rfl
       have hcz36_3:w7.cell? ⟨gb101,3,none⟩ = some (.int .i64 a0_3):=(I BK101.out 3).trans rfl
       have hcz36_4:w7.cell? ⟨gb101,4,none⟩ = some (.string a0_4):=(I BK101.out 4).trans rfl
       have hcz36_5:w7.cell? ⟨gb101,5,none⟩ = some (.string a0_5):=(I BK101.out 5).trans rfl
       have hcz36_6:w7.cell? ⟨gb101,6,none⟩ = some (.bool a0_6):=(I BK101.out 6).trans rfl
       have hcz36_7:w7.cell? ⟨gb101,7,none⟩ = some (.bool a0_7):=(I BK101.out 7).trans rfl
       have hfz36_0:=J BK101.out 0
       have hfz36_1:=J BK101.out 1
       have hfz36_2:=J BK101.out 2
       have hfz36_3:=J BK101.out 3
       have hfz36_4:=J BK101.out 4
       have hfz36_5:=J BK101.out 5
       have hfz36_6:=J BK101.out 6
       have hfz36_7:=J BK101.out 7
       go_wp2_with (first|(go_at_call 19;(with_reducible refine(qvz.calls k _ _ l0_0 _ _ l0_1 a0_2 a0_3 true _ ?side1 ?side2 ?side3 ?side4 A15.out).mono ?_);(case side1=>exact Kd.C_below HR0_0.out (by solve_by_elim (maxDepth:=20) only[HB.out,O,U,L,qq,GE101.out,qq,GE116.out]));(case side2=>exact HC0_0.out);(case side3=>exact Kd.C_below HR0_1.out (by solve_by_elim (maxDepth:=20) only[HB.out,O,U,L,qq,GE101.out,qq,GE116.out]));(case side4=>exact HC0_1.out);rintro e w37 ⟨rfl,hb⟩;replace HO105:=X.mk (Kd.V_below (by(with_reducible repeat(first|apply Kd.jx|apply Kd.jw|apply Kd.kz));exact(Kd.V_mono (Kd.V_far (p:=⟨gb116,4,none⟩) (Kd.V_far (p:=⟨gb116,3,none⟩) (Kd.V_far (p:=⟨gb116,2,none⟩) (Kd.V_far (p:=⟨gb116,1,none⟩) (Kd.V_far (p:=⟨gb116,0,none⟩) (Kd.V_mono HO105.out (fun k_ hk=>(⟨hk,hk.2⟩ : _∧k_≠gb116))) (fun _ hk=>hk.2) (.string t102)) (fun _ hk=>hk.2) (.slice Ao10 t103.length co10)) (fun _ hk=>hk.2) (.slice Ao11 t106.length co11)) (fun _ hk=>hk.2) (.slice Ao12 t109.length co12)) (fun _ hk=>hk.2) (.slice Ao13 t112.length co13)) (fun _ h_=>h_.1))) hb);replace HO108:=X.mk (Kd.V_below (by(with_reducible repeat(first|apply Kd.jx|apply Kd.jw|apply Kd.kz));exact(Kd.V_mono (Kd.V_far (p:=⟨gb116,4,none⟩) (Kd.V_far (p:=⟨gb116,3,none⟩) (Kd.V_far (p:=⟨gb116,2,none⟩) (Kd.V_far (p:=⟨gb116,1,none⟩) (Kd.V_far (p:=⟨gb116,0,none⟩) (Kd.V_mono HO108.out (fun k_ hk=>(⟨hk,hk.2⟩ : _∧k_≠gb116))) (fun _ hk=>hk.2) (.string t102)) (fun _ hk=>hk.2) (.slice Ao10 t103.length co10)) (fun _ hk=>hk.2) (.slice Ao11 t106.length co11)) (fun _ hk=>hk.2) (.slice Ao12 t109.length co12)) (fun _ hk=>hk.2) (.slice Ao13 t112.length co13)) (fun _ h_=>h_.1))) hb);replace HO111:=X.mk (Kd.V_below (by(with_reducible repeat(first|apply Kd.jx|apply Kd.jw|apply Kd.kz));exact(Kd.V_mono (Kd.V_far (p:=⟨gb116,4,none⟩) (Kd.V_far (p:=⟨gb116,3,none⟩) (Kd.V_far (p:=⟨gb116,2,none⟩) (Kd.V_far (p:=⟨gb116,1,none⟩) (Kd.V_far (p:=⟨gb116,0,none⟩) (Kd.V_mono HO111.out (fun k_ hk=>(⟨hk,hk.2⟩ : _∧k_≠gb116))) (fun _ hk=>hk.2) (.string t102)) (fun _ hk=>hk.2) (.slice Ao10 t103.length co10)) (fun _ hk=>hk.2) (.slice Ao11 t106.length co11)) (fun _ hk=>hk.2) (.slice Ao12 t109.length co12)) (fun _ hk=>hk.2) (.slice Ao13 t112.length co13)) (fun _ h_=>h_.1))) hb);replace HO114:=X.mk (Kd.V_below (by(with_reducible repeat(first|apply Kd.jx|apply Kd.jw|apply Kd.kz));exact(Kd.V_mono (Kd.V_far (p:=⟨gb116,4,none⟩) (Kd.V_far (p:=⟨gb116,3,none⟩) (Kd.V_far (p:=⟨gb116,2,none⟩) (Kd.V_far (p:=⟨gb116,1,none⟩) (Kd.V_far (p:=⟨gb116,0,none⟩) (Kd.V_mono HO114.out (fun k_ hk=>(⟨hk,hk.2⟩ : _∧k_≠gb116))) (fun _ hk=>hk.2) (.string t102)) (fun _ hk=>hk.2) (.slice Ao10 t103.length co10)) (fun _ hk=>hk.2) (.slice Ao11 t106.length co11)) (fun _ hk=>hk.2) (.slice Ao12 t109.length co12)) (fun _ hk=>hk.2) (.slice Ao13 t112.length co13)) (fun _ h_=>h_.1))) hb);replace BK101:=X.mk (kj (g:=gb101) (o:=.cells #[.slice A0_0 l0_0.length c0_0,.slice A0_1 l0_1.length c0_1,.int .i64 a0_2,.int .i64 a0_3,.string a0_4,.string a0_5,.bool a0_6,.bool a0_7] 62 (0,0)) (by(with_reducible repeat(first|refine qj ?_ _|refine qk ?_|refine qz ?_ _));refine blk_far ?_ NB101_116.out _;(with_reducible repeat(first|refine qj ?_ _|refine qk ?_|refine qz ?_ _));refine blk_far ?_ NB101_116.out _;(with_reducible repeat(first|refine qj ?_ _|refine qk ?_|refine qz ?_ _));refine blk_far ?_ NB101_116.out _;(with_reducible repeat(first|refine qj ?_ _|refine qk ?_|refine qz ?_ _));refine blk_far ?_ NB101_116.out _;(with_reducible repeat(first|refine qj ?_ _|refine qk ?_|refine qz ?_ _));refine blk_far ?_ NB101_116.out _;(with_reducible repeat(first|refine qj ?_ _|refine qk ?_|refine qz ?_ _));exact BK101.out) hb);replace BK116:=X.mk (kj (g:=gb116) (o:=.cells #[.string t102,.slice Ao10 t103.length co10,.slice Ao11 t106.length co11,.slice Ao12 t109.length co12,.slice Ao13 t112.length co13] 77 (0,0)) (by(with_reducible repeat(first|refine qj ?_ _|refine qk ?_|refine qz ?_ _));refine blk_put (cs:=#[.string t102,.slice Ao10 t103.length co10,.slice Ao11 t106.length co11,.slice Ao12 t109.length co12,.slice none 0 0]) ?_ 4 _ rfl;(with_reducible repeat(first|refine qj ?_ _|refine qk ?_|refine qz ?_ _));refine blk_put (cs:=#[.string t102,.slice Ao10 t103.length co10,.slice Ao11 t106.length co11,.slice none 0 0,.slice none 0 0]) ?_ 3 _ rfl;(with_reducible repeat(first|refine qj ?_ _|refine qk ?_|refine qz ?_ _));refine blk_put (cs:=#[.string t102,.slice Ao10 t103.length co10,.slice none 0 0,.slice none 0 0,.slice none 0 0]) ?_ 2 _ rfl;(with_reducible repeat(first|refine qj ?_ _|refine qk ?_|refine qz ?_ _));refine blk_put (cs:=#[.string t102,.slice none 0 0,.slice none 0 0,.slice none 0 0,.slice none 0 0]) ?_ 1 _ rfl;(with_reducible repeat(first|refine qj ?_ _|refine qk ?_|refine qz ?_ _));refine blk_put (cs:=#[.string (⟨#[]⟩ : ByteArray),.slice none 0 0,.slice none 0 0,.slice none 0 0,.slice none 0 0]) ?_ 0 _ rfl;(with_reducible repeat(first|refine qj ?_ _|refine qk ?_|refine qz ?_ _));exact BK116.out) hb);replace HB:=X.mk (qw (by solve_by_elim (maxDepth:=20) only[HB.out,O,U,L,qq,GE101.out,qq,GE116.out]) hb);(try clear hb);have hcz38_0:w37.cell? ⟨gb116,0,none⟩ = some (.string t102):=(I BK116.out 0).trans rfl;have hcz38_1:w37.cell? ⟨gb116,1,none⟩ = some (.slice Ao10 t103.length co10):=(I BK116.out 1).trans rfl;have hcz38_2:w37.cell? ⟨gb116,2,none⟩ = some (.slice Ao11 t106.length co11):=(I BK116.out 2).trans rfl;have hcz38_3:w37.cell? ⟨gb116,3,none⟩ = some (.slice Ao12 t109.length co12):=(I BK116.out 3).trans rfl;have hcz38_4:w37.cell? ⟨gb116,4,none⟩ = some (.slice Ao13 t112.length co13):=(I BK116.out 4).trans rfl;have hfz38_0:=J BK116.out 0;have hfz38_1:=J BK116.out 1;have hfz38_2:=J BK116.out 2;have hfz38_3:=J BK116.out 3;have hfz38_4:=J BK116.out 4)|(go_at_call 60;(with_reducible refine(qvj.calls k t102 _ _ t103 _ _ t106 _ _ t109 _ _ t112 1 false _ ?side1 ?side2 ?side3 ?side4 ?side5 ?side6 ?side7 ?side8 A27.out).mono ?_);(case side1=>solve_by_elim only[(Kd.V_reads' HO105.out).2.2,Kd.C_alloc,Kd.C_drewN,Kd.C_drew]);(case side2=>exact(Kd.V_reads' HO105.out).2.1);(case side3=>solve_by_elim only[(Kd.V_reads' HO108.out).2.2,Kd.C_alloc,Kd.C_drewN,Kd.C_drew]);(case side4=>exact(Kd.V_reads' HO108.out).2.1);(case side5=>solve_by_elim only[(Kd.V_reads' HO111.out).2.2,Kd.C_alloc,Kd.C_drewN,Kd.C_drew]);(case side6=>exact(Kd.V_reads' HO111.out).2.1);(case side7=>solve_by_elim only[(Kd.V_reads' HO114.out).2.2,Kd.C_alloc,Kd.C_drewN,Kd.C_drew]);(case side8=>exact(Kd.V_reads' HO114.out).2.1);rintro e w39 ⟨rfl,hb⟩;replace HO105:=X.mk (Kd.V_below (by(with_reducible repeat(first|apply Kd.jx|apply Kd.jw|apply Kd.kz));exact HO105.out) hb);replace HO108:=X.mk (Kd.V_below (by(with_reducible repeat(first|apply Kd.jx|apply Kd.jw|apply Kd.kz));exact HO108.out) hb);replace HO111:=X.mk (Kd.V_below (by(with_reducible repeat(first|apply Kd.jx|apply Kd.jw|apply Kd.kz));exact HO111.out) hb);replace HO114:=X.mk (Kd.V_below (by(with_reducible repeat(first|apply Kd.jx|apply Kd.jw|apply Kd.kz));exact HO114.out) hb);replace BK101:=X.mk (kj (g:=gb101) (o:=.cells #[.slice A0_0 l0_0.length c0_0,.slice A0_1 l0_1.length c0_1,.int .i64 a0_2,.int .i64 a0_3,.string a0_4,.string a0_5,.bool a0_6,.bool a0_7] 62 (0,0)) (by solve_by_elim only[BK101.out,qj,qk,qz]) hb);replace BK116:=X.mk (kj (g:=gb116) (o:=.cells #[.string t102,.slice Ao10 t103.length co10,.slice Ao11 t106.length co11,.slice Ao12 t109.length co12,.slice Ao13 t112.length co13] 77 (0,0)) (by solve_by_elim only[BK116.out,qj,qk,qz]) hb);replace HB:=X.mk (qw (by solve_by_elim (maxDepth:=20) only[HB.out,O,U,L,qq,GE101.out,qq,GE116.out]) hb);(try clear hb)))
       go_meet
       case rel=>exact⟨_,(true),(by first|rfl|(simp;done)|(simp[*];done)|(generalize ByteArray.toList _=l_;cases l_ <;> first|rfl|(simp;done))),H',⟨by first|omega|exact Nat.le_refl _⟩,⟨by(with_reducible repeat(first|apply Kd.jx|apply Kd.jw|apply Kd.kz));exact HO105.out⟩,⟨by(with_reducible repeat(first|apply Kd.jx|apply Kd.jw|apply Kd.kz));exact HO108.out⟩,⟨by(with_reducible repeat(first|apply Kd.jx|apply Kd.jw|apply Kd.kz));exact HO111.out⟩,⟨by(with_reducible repeat(first|apply Kd.jx|apply Kd.jw|apply Kd.kz));exact HO114.out⟩,⟨by(with_reducible repeat(first|refine qj ?_ _|refine qk ?_|refine qz ?_ _));exact BK101.out⟩,⟨by(with_reducible repeat(first|refine qj ?_ _|refine qk ?_|refine qz ?_ _));exact BK116.out⟩,⟨by repeat(first|(with_reducible first|exact HB.out|apply O|apply U|apply L|refine qq ?_ GE101.out|refine qq ?_ GE116.out)|exact HB.out)⟩⟩
   ·replace c16:=jq9.mpr c16
    subst c16
    have H1:(qkx.j0 k true l0_0 l0_1 a0_2 a0_3 a0_4 a0_5 a0_6 a0_7 t102 t103 t106 t109 t112)=some r:=by rw[if_neg (show ¬ (false=true) by decide)] at H;exact H
    clear H
    have H:=H1
    clear H1
    have H':=X.mk H
    clear H
    have hnb40:=NB101_116.out
    have hnc40:=NB116_101.out
    have hcz41_0:w7.cell? ⟨gb101,0,none⟩ = some (.slice A0_0 l0_0.length c0_0):=(I BK101.out 0).trans rfl
    have hcz41_1:w7.cell? ⟨gb101,1,none⟩ = some (.slice A0_1 l0_1.length c0_1):=(I BK101.out 1).trans rfl
    have hcz41_2:w7.cell? ⟨gb101,2,none⟩ = some (.int .i64 a0_2):=(I BK101.out 2).trans rfl
    have hcz41_3:w7.cell? ⟨gb101,3,none⟩ = some (.int .i64 a0_3):=(I BK101.out 3).trans rfl
    have hcz41_4:w7.cell? ⟨gb101,4,none⟩ = some (.string a0_4):=(I BK101.out 4).trans rfl
    have hcz41_5:w7.cell? ⟨gb101,5,none⟩ = some (.string a0_5):=(I BK101.out 5).trans rfl
    have hcz41_6:w7.cell? ⟨gb101,6,none⟩ = some (.bool a0_6):=(I BK101.out 6).trans rfl
    have hcz41_7:w7.cell? ⟨gb101,7,none⟩ = some (.bool a0_7):=(I BK101.out 7).trans rfl
    have hfz41_0:=J BK101.out 0
    have hfz41_1:=J BK101.out 1
    have hfz41_2:=J BK101.out 2
    have hfz41_3:=J BK101.out 3
    have hfz41_4:=J BK101.out 4
    have hfz41_5:=J BK101.out 5
    have hfz41_6:=J BK101.out 6
    have hfz41_7:=J BK101.out 7
    go_wp2_with (first|(go_at_call 19;(with_reducible refine(qvz.calls k _ _ l0_0 _ _ l0_1 a0_2 a0_3 false _ ?side1 ?side2 ?side3 ?side4 A15.out).mono ?_);(case side1=>exact Kd.C_below HR0_0.out (by solve_by_elim (maxDepth:=20) only[HB.out,O,U,L,qq,GE101.out,qq,GE116.out]));(case side2=>exact HC0_0.out);(case side3=>exact Kd.C_below HR0_1.out (by solve_by_elim (maxDepth:=20) only[HB.out,O,U,L,qq,GE101.out,qq,GE116.out]));(case side4=>exact HC0_1.out);rintro e w42 ⟨rfl,hb⟩;replace HO105:=X.mk (Kd.V_below (by(with_reducible repeat(first|apply Kd.jx|apply Kd.jw|apply Kd.kz));exact(Kd.V_mono (Kd.V_far (p:=⟨gb116,4,none⟩) (Kd.V_far (p:=⟨gb116,3,none⟩) (Kd.V_far (p:=⟨gb116,2,none⟩) (Kd.V_far (p:=⟨gb116,1,none⟩) (Kd.V_far (p:=⟨gb116,0,none⟩) (Kd.V_mono HO105.out (fun k_ hk=>(⟨hk,hk.2⟩ : _∧k_≠gb116))) (fun _ hk=>hk.2) (.string t102)) (fun _ hk=>hk.2) (.slice Ao10 t103.length co10)) (fun _ hk=>hk.2) (.slice Ao11 t106.length co11)) (fun _ hk=>hk.2) (.slice Ao12 t109.length co12)) (fun _ hk=>hk.2) (.slice Ao13 t112.length co13)) (fun _ h_=>h_.1))) hb);replace HO108:=X.mk (Kd.V_below (by(with_reducible repeat(first|apply Kd.jx|apply Kd.jw|apply Kd.kz));exact(Kd.V_mono (Kd.V_far (p:=⟨gb116,4,none⟩) (Kd.V_far (p:=⟨gb116,3,none⟩) (Kd.V_far (p:=⟨gb116,2,none⟩) (Kd.V_far (p:=⟨gb116,1,none⟩) (Kd.V_far (p:=⟨gb116,0,none⟩) (Kd.V_mono HO108.out (fun k_ hk=>(⟨hk,hk.2⟩ : _∧k_≠gb116))) (fun _ hk=>hk.2) (.string t102)) (fun _ hk=>hk.2) (.slice Ao10 t103.length co10)) (fun _ hk=>hk.2) (.slice Ao11 t106.length co11)) (fun _ hk=>hk.2) (.slice Ao12 t109.length co12)) (fun _ hk=>hk.2) (.slice Ao13 t112.length co13)) (fun _ h_=>h_.1))) hb);replace HO111:=X.mk (Kd.V_below (by(with_reducible repeat(first|apply Kd.jx|apply Kd.jw|apply Kd.kz));exact(Kd.V_mono (Kd.V_far (p:=⟨gb116,4,none⟩) (Kd.V_far (p:=⟨gb116,3,none⟩) (Kd.V_far (p:=⟨gb116,2,none⟩) (Kd.V_far (p:=⟨gb116,1,none⟩) (Kd.V_far (p:=⟨gb116,0,none⟩) (Kd.V_mono HO111.out (fun k_ hk=>(⟨hk,hk.2⟩ : _∧k_≠gb116))) (fun _ hk=>hk.2) (.string t102)) (fun _ hk=>hk.2) (.slice Ao10 t103.length co10)) (fun _ hk=>hk.2) (.slice Ao11 t106.length co11)) (fun _ hk=>hk.2) (.slice Ao12 t109.length co12)) (fun _ hk=>hk.2) (.slice Ao13 t112.length co13)) (fun _ h_=>h_.1))) hb);replace HO114:=X.mk (Kd.V_below (by(with_reducible repeat(first|apply Kd.jx|apply Kd.jw|apply Kd.kz));exact(Kd.V_mono (Kd.V_far (p:=⟨gb116,4,none⟩) (Kd.V_far (p:=⟨gb116,3,none⟩) (Kd.V_far (p:=⟨gb116,2,none⟩) (Kd.V_far (p:=⟨gb116,1,none⟩) (Kd.V_far (p:=⟨gb116,0,none⟩) (Kd.V_mono HO114.out (fun k_ hk=>(⟨hk,hk.2⟩ : _∧k_≠gb116))) (fun _ hk=>hk.2) (.string t102)) (fun _ hk=>hk.2) (.slice Ao10 t103.length co10)) (fun _ hk=>hk.2) (.slice Ao11 t106.length co11)) (fun _ hk=>hk.2) (.slice Ao12 t109.length co12)) (fun _ hk=>hk.2) (.slice Ao13 t112.length co13)) (fun _ h_=>h_.1))) hb);replace BK101:=X.mk (kj (g:=gb101) (o:=.cells #[.slice A0_0 l0_0.length c0_0,.slice A0_1 l0_1.length c0_1,.int .i64 a0_2,.int .i64 a0_3,.string a0_4,.string a0_5,.bool a0_6,.bool a0_7] 62 (0,0)) (by(with_reducible repeat(first|refine qj ?_ _|refine qk ?_|refine qz ?_ _));refine blk_far ?_ NB101_116.out _;(with_reducible repeat(first|refine qj ?_ _|refine qk ?_|refine qz ?_ _));refine blk_far ?_ NB101_116.out _;(with_reducible repeat(first|refine qj ?_ _|refine qk ?_|refine qz ?_ _));refine blk_far ?_ NB101_116.out _;(with_reducible repeat(first|refine qj ?_ _|refine qk ?_|refine qz ?_ _));refine blk_far ?_ NB101_116.out _;(with_reducible repeat(first|refine qj ?_ _|refine qk ?_|refine qz ?_ _));refine blk_far ?_ NB101_116.out _;(with_reducible repeat(first|refine qj ?_ _|refine qk ?_|refine qz ?_ _));exact BK101.out) hb);replace BK116:=X.mk (kj (g:=gb116) (o:=.cells #[.string t102,.slice Ao10 t103.length co10,.slice Ao11 t106.length co11,.slice Ao12 t109.length co12,.slice Ao13 t112.length co13] 77 (0,0)) (by(with_reducible repeat(first|refine qj ?_ _|refine qk ?_|refine qz ?_ _));refine blk_put (cs:=#[.string t102,.slice Ao10 t103.length co10,.slice Ao11 t106.length co11,.slice Ao12 t109.length co12,.slice none 0 0]) ?_ 4 _ rfl;(with_reducible repeat(first|refine qj ?_ _|refine qk ?_|refine qz ?_ _));refine blk_put (cs:=#[.string t102,.slice Ao10 t103.length co10,.slice Ao11 t106.length co11,.slice none 0 0,.slice none 0 0]) ?_ 3 _ rfl;(with_reducible repeat(first|refine qj ?_ _|refine qk ?_|refine qz ?_ _));refine blk_put (cs:=#[.string t102,.slice Ao10 t103.length co10,.slice none 0 0,.slice none 0 0,.slice none 0 0]) ?_ 2 _ rfl;(with_reducible repeat(first|refine qj ?_ _|refine qk ?_|refine qz ?_ _));refine blk_put (cs:=#[.string t102,.slice none 0 0,.slice none 0 0,.slice none 0 0,.slice none 0 0]) ?_ 1 _ rfl;(with_reducible repeat(first|refine qj ?_ _|refine qk ?_|refine qz ?_ _));refine blk_put (cs:=#[.string (⟨#[]⟩ : ByteArray),.slice none 0 0,.slice none 0 0,.slice none 0 0,.slice none 0 0]) ?_ 0 _ rfl;(with_reducible repeat(first|refine qj ?_ _|refine qk ?_|refine qz ?_ _));exact BK116.out) hb);replace HB:=X.mk (qw (by solve_by_elim (maxDepth:=20) only[HB.out,O,U,L,qq,GE101.out,qq,GE116.out]) hb);(try clear hb)))
    go_meet
    case rel=>exact⟨_,(true),(by first|rfl|(simp;done)|(simp[*];done)|(generalize ByteArray.toList _=l_;cases l_ <;> first|rfl|(simp;done))),H',⟨by first|omega|exact Nat.le_refl _⟩,⟨by(with_reducible repeat(first|apply Kd.jx|apply Kd.jw|apply Kd.kz));exact HO105.out⟩,⟨by(with_reducible repeat(first|apply Kd.jx|apply Kd.jw|apply Kd.kz));exact HO108.out⟩,⟨by(with_reducible repeat(first|apply Kd.jx|apply Kd.jw|apply Kd.kz));exact HO111.out⟩,⟨by(with_reducible repeat(first|apply Kd.jx|apply Kd.jw|apply Kd.kz));exact HO114.out⟩,⟨by(with_reducible repeat(first|refine qj ?_ _|refine qk ?_|refine qz ?_ _));exact BK101.out⟩,⟨by(with_reducible repeat(first|refine qj ?_ _|refine qk ?_|refine qz ?_ _));exact BK116.out⟩,⟨by repeat(first|(with_reducible first|exact HB.out|apply O|apply U|apply L|refine qq ?_ GE101.out|refine qq ?_ GE116.out)|exact HB.out)⟩⟩
  ·replace c14:=jq9.mpr c14
   subst c14
   have H1:(qkx.j0 k true l0_0 l0_1 a0_2 a0_3 a0_4 a0_5 a0_6 a0_7 t102 t103 t106 t109 t112)=some r:=by rw[if_neg (show ¬ (false=true) by decide)] at H;exact H
   clear H
   have H:=H1
   clear H1
   have H':=X.mk H
   clear H
   go_wp2
   go_meet
   case rel=>exact⟨_,(true),(by first|rfl|(simp;done)|(simp[*];done)|(generalize ByteArray.toList _=l_;cases l_ <;> first|rfl|(simp;done))),H',⟨by first|omega|exact Nat.le_refl _⟩,⟨by(with_reducible repeat(first|apply Kd.jx|apply Kd.jw|apply Kd.kz));exact Kd.V_mono (Kd.V_far (p:=⟨gb116,4,none⟩) (Kd.V_far (p:=⟨gb116,3,none⟩) (Kd.V_far (p:=⟨gb116,2,none⟩) (Kd.V_far (p:=⟨gb116,1,none⟩) (Kd.V_far (p:=⟨gb116,0,none⟩) (Kd.V_mono HO105.out (fun k_ hk=>(⟨hk,hk.2⟩ : _∧k_≠gb116))) (fun _ hk=>hk.2) (.string t102)) (fun _ hk=>hk.2) (.slice Ao10 t103.length co10)) (fun _ hk=>hk.2) (.slice Ao11 t106.length co11)) (fun _ hk=>hk.2) (.slice Ao12 t109.length co12)) (fun _ hk=>hk.2) (.slice Ao13 t112.length co13)) (fun _ hk=>⟨hk.1.1,hk.1.2⟩)⟩,⟨by(with_reducible repeat(first|apply Kd.jx|apply Kd.jw|apply Kd.kz));exact Kd.V_mono (Kd.V_far (p:=⟨gb116,4,none⟩) (Kd.V_far (p:=⟨gb116,3,none⟩) (Kd.V_far (p:=⟨gb116,2,none⟩) (Kd.V_far (p:=⟨gb116,1,none⟩) (Kd.V_far (p:=⟨gb116,0,none⟩) (Kd.V_mono HO108.out (fun k_ hk=>(⟨hk,hk.2⟩ : _∧k_≠gb116))) (fun _ hk=>hk.2) (.string t102)) (fun _ hk=>hk.2) (.slice Ao10 t103.length co10)) (fun _ hk=>hk.2) (.slice Ao11 t106.length co11)) (fun _ hk=>hk.2) (.slice Ao12 t109.length co12)) (fun _ hk=>hk.2) (.slice Ao13 t112.length co13)) (fun _ hk=>⟨hk.1.1,hk.1.2⟩)⟩,⟨by(with_reducible repeat(first|apply Kd.jx|apply Kd.jw|apply Kd.kz));exact Kd.V_mono (Kd.V_far (p:=⟨gb116,4,none⟩) (Kd.V_far (p:=⟨gb116,3,none⟩) (Kd.V_far (p:=⟨gb116,2,none⟩) (Kd.V_far (p:=⟨gb116,1,none⟩) (Kd.V_far (p:=⟨gb116,0,none⟩) (Kd.V_mono HO111.out (fun k_ hk=>(⟨hk,hk.2⟩ : _∧k_≠gb116))) (fun _ hk=>hk.2) (.string t102)) (fun _ hk=>hk.2) (.slice Ao10 t103.length co10)) (fun _ hk=>hk.2) (.slice Ao11 t106.length co11)) (fun _ hk=>hk.2) (.slice Ao12 t109.length co12)) (fun _ hk=>hk.2) (.slice Ao13 t112.length co13)) (fun _ hk=>⟨hk.1.1,hk.1.2⟩)⟩,⟨by(with_reducible repeat(first|apply Kd.jx|apply Kd.jw|apply Kd.kz));exact Kd.V_mono (Kd.V_far (p:=⟨gb116,4,none⟩) (Kd.V_far (p:=⟨gb116,3,none⟩) (Kd.V_far (p:=⟨gb116,2,none⟩) (Kd.V_far (p:=⟨gb116,1,none⟩) (Kd.V_far (p:=⟨gb116,0,none⟩) (Kd.V_mono HO114.out (fun k_ hk=>(⟨hk,hk.2⟩ : _∧k_≠gb116))) (fun _ hk=>hk.2) (.string t102)) (fun _ hk=>hk.2) (.slice Ao10 t103.length co10)) (fun _ hk=>hk.2) (.slice Ao11 t106.length co11)) (fun _ hk=>hk.2) (.slice Ao12 t109.length co12)) (fun _ hk=>hk.2) (.slice Ao13 t112.length co13)) (fun _ hk=>⟨hk.1.1,hk.1.2⟩)⟩,⟨by(with_reducible repeat(first|refine qj ?_ _|refine qk ?_|refine qz ?_ _));refine blk_far ?_ NB101_116.out _;(with_reducible repeat(first|refine qj ?_ _|refine qk ?_|refine qz ?_ _));refine blk_far ?_ NB101_116.out _;(with_reducible repeat(first|refine qj ?_ _|refine qk ?_|refine qz ?_ _));refine blk_far ?_ NB101_116.out _;(with_reducible repeat(first|refine qj ?_ _|refine qk ?_|refine qz ?_ _));refine blk_far ?_ NB101_116.out _;(with_reducible repeat(first|refine qj ?_ _|refine qk ?_|refine qz ?_ _));refine blk_far ?_ NB101_116.out _;(with_reducible repeat(first|refine qj ?_ _|refine qk ?_|refine qz ?_ _));exact BK101.out⟩,⟨by(with_reducible repeat(first|refine qj ?_ _|refine qk ?_|refine qz ?_ _));refine blk_put (cs:=#[.string t102,.slice Ao10 t103.length co10,.slice Ao11 t106.length co11,.slice Ao12 t109.length co12,.slice none 0 0]) ?_ 4 _ rfl;(with_reducible repeat(first|refine qj ?_ _|refine qk ?_|refine qz ?_ _));refine blk_put (cs:=#[.string t102,.slice Ao10 t103.length co10,.slice Ao11 t106.length co11,.slice none 0 0,.slice none 0 0]) ?_ 3 _ rfl;(with_reducible repeat(first|refine qj ?_ _|refine qk ?_|refine qz ?_ _));refine blk_put (cs:=#[.string t102,.slice Ao10 t103.length co10,.slice none 0 0,.slice none 0 0,.slice none 0 0]) ?_ 2 _ rfl;(with_reducible repeat(first|refine qj ?_ _|refine qk ?_|refine qz ?_ _));refine blk_put (cs:=#[.string t102,.slice none 0 0,.slice none 0 0,.slice none 0 0,.slice none 0 0]) ?_ 1 _ rfl;(with_reducible repeat(first|refine qj ?_ _|refine qk ?_|refine qz ?_ _));refine blk_put (cs:=#[.string (⟨#[]⟩ : ByteArray),.slice none 0 0,.slice none 0 0,.slice none 0 0,.slice none 0 0]) ?_ 0 _ rfl;(with_reducible repeat(first|refine qj ?_ _|refine qk ?_|refine qz ?_ _));exact BK116.out⟩,⟨by repeat(first|(with_reducible first|exact HB.out|apply O|apply U|apply L|refine qq ?_ GE101.out|refine qq ?_ GE116.out)|exact HB.out)⟩⟩
 case rest =>
  clear HC3
  try clear c1
  try clear c2
  try clear p2
  try clear c3
  try clear c4
  try clear c5
  try clear c8
  try clear c14
  try clear c16
  try clear c17
  try clear c17b0
  try clear c17b1
  try clear c17b2
  try clear c18
  try clear c22
  try clear c22b0
  try clear c22b1
  try clear c22b2
  try clear c23
  try clear c28
  try clear c29
  try clear c30
  try clear c35
  try clear c40
  try clear hcz19_0
  try clear hcz19_1
  try clear hcz19_2
  try clear hcz19_3
  try clear hcz19_4
  try clear hcz19_5
  try clear hcz19_6
  try clear hcz19_7
  try clear hcz21_0
  try clear hcz21_1
  try clear hcz21_2
  try clear hcz21_3
  try clear hcz21_4
  try clear hcz24_0
  try clear hcz24_1
  try clear hcz24_2
  try clear hcz24_3
  try clear hcz24_4
  try clear hcz24_5
  try clear hcz24_6
  try clear hcz24_7
  try clear hcz26_0
  try clear hcz26_1
  try clear hcz26_2
  try clear hcz26_3
  try clear hcz26_4
  try clear hcz30_0
  try clear hcz30_1
  try clear hcz30_2
  try clear hcz30_3
  try clear hcz30_4
  try clear hcz30_5
  try clear hcz30_6
  try clear hcz30_7
  try clear hcz32_0
  try clear hcz32_1
  try clear hcz32_2
  try clear hcz32_3
  try clear hcz32_4
  try clear hcz34_0
  try clear hcz34_1
  try clear hcz34_2
  try clear hcz34_3
  try clear hcz34_4
  try clear hcz34_5
  try clear hcz34_6
  try clear hcz34_7
  try clear hcz36_0
  try clear hcz36_1
  try clear hcz36_2
  try clear hcz36_3
  try clear hcz36_4
  try clear hcz36_5
  try clear hcz36_6
  try clear hcz36_7
  try clear hcz38_0
  try clear hcz38_1
  try clear hcz38_2
  try clear hcz38_3
  try clear hcz38_4
  try clear hcz41_0
  try clear hcz41_1
  try clear hcz41_2
  try clear hcz41_3
  try clear hcz41_4
  try clear hcz41_5
  try clear hcz41_6
  try clear hcz41_7
  try clear hcz5_0
  try clear hcz5_1
  try clear hcz5_2
  try clear hcz5_3
  try clear hcz5_4
  try clear hcz5_5
  try clear hcz5_6
  try clear hcz5_7
  try clear hcz9_0
  try clear hcz9_1
  try clear hcz9_2
  try clear hcz9_3
  try clear hcz9_4
  try clear hfz19_0
  try clear hfz19_1
  try clear hfz19_2
  try clear hfz19_3
  try clear hfz19_4
  try clear hfz19_5
  try clear hfz19_6
  try clear hfz19_7
  try clear hfz21_0
  try clear hfz21_1
  try clear hfz21_2
  try clear hfz21_3
  try clear hfz21_4
  try clear hfz24_0
  try clear hfz24_1
  try clear hfz24_2
  try clear hfz24_3
  try clear hfz24_4
  try clear hfz24_5
  try clear hfz24_6
  try clear hfz24_7
  try clear hfz26_0
  try clear hfz26_1
  try clear hfz26_2
  try clear hfz26_3
  try clear hfz26_4
  try clear hfz30_0
  try clear hfz30_1
  try clear hfz30_2
  try clear hfz30_3
  try clear hfz30_4
  try clear hfz30_5
  try clear hfz30_6
  try clear hfz30_7
  try clear hfz32_0
  try clear hfz32_1
  try clear hfz32_2
  try clear hfz32_3
  try clear hfz32_4
  try clear hfz34_0
  try clear hfz34_1
  try clear hfz34_2
  try clear hfz34_3
  try clear hfz34_4
  try clear hfz34_5
  try clear hfz34_6
  try clear hfz34_7
  try clear hfz36_0
  try clear hfz36_1
  try clear hfz36_2
  try clear hfz36_3
  try clear hfz36_4
  try clear hfz36_5
  try clear hfz36_6
  try clear hfz36_7
  try clear hfz38_0
  try clear hfz38_1
  try clear hfz38_2
  try clear hfz38_3
  try clear hfz38_4
  try clear hfz41_0
  try clear hfz41_1
  try clear hfz41_2
  try clear hfz41_3
  try clear hfz41_4
  try clear hfz41_5
  try clear hfz41_6
  try clear hfz41_7
  try clear hfz5_0
  try clear hfz5_1
  try clear hfz5_2
  try clear hfz5_3
  try clear hfz5_4
  try clear hfz5_5
  try clear hfz5_6
  try clear hfz5_7
  try clear hfz9_0
  try clear hfz9_1
  try clear hfz9_2
  try clear hfz9_3
  try clear hfz9_4
  obtain⟨kq,x40_2,rfl,HA,HJ2,HO_117001,HO_117002,HO_117003,HO_117004,BK101,BK116,HB⟩:=hcut
  cases kq with
  | zero=>exact absurd HA.out (by simp[qkx.j0])
  | succ kj2 =>
   have H:=HA.out
   clear HA
   simp only[qkx.j0] at H
   by_cases c43:x40_2=true
   ·subst c43
    have H1:(some false)=some r:=by rw[if_pos rfl] at H;exact H
    clear H
    have H:=H1
    clear H1
    obtain rfl:=Option.some.inj H
    go_wp2
    go_ret
    exact⟨by first|rfl|(simp[*,zv,zk] <;> rfl),by repeat(first|(with_reducible first|exact HB.out|apply O|apply U|apply L|refine qq ?_ GE101.out|refine qq ?_ GE116.out)|exact HB.out)⟩
   ·replace c43:=jq9.mpr c43
    subst c43
    have H1:(if (t103.length:Int)=0 then(some (a0_5.toList == ([]:List UInt8))) else(if a0_5.toList=([]:List UInt8) then(some false) else((bytesOfS.f a0_5).bind fun t119=>((qwv.f kj2 t119).bind fun t122=>(some ((strOfNums t122).toList == (strOfNums t103).toList))))))=some r:=by rw[if_neg (show ¬ (false=true) by decide)] at H;exact H
    clear H
    have H:=H1
    clear H1
    by_cases c44:(t103.length:Int)=0
    ·rw[if_pos c44] at H
     have c44b0:((t103.length:Int) == 0)=true:=beq_iff_eq.mpr c44
     have c44b1:((t103.length:Int) != 0)=false:=bne_eq_false_iff_eq.mpr c44
     clear c44
     obtain rfl:=Option.some.inj H
     have hnb45:=NB116_101.out
     have hnc45:=NB101_116.out
     have hcz46_0:wc.cell? ⟨gb116,0,none⟩ = some (.string t102):=(I BK116.out 0).trans rfl
     have hcz46_1:wc.cell? ⟨gb116,1,none⟩ = some (.slice Ao10 t103.length co10):=(I BK116.out 1).trans rfl
     have hcz46_2:wc.cell? ⟨gb116,2,none⟩ = some (.slice Ao11 t106.length co11):=(I BK116.out 2).trans rfl
     have hcz46_3:wc.cell? ⟨gb116,3,none⟩ = some (.slice Ao12 t109.length co12):=(I BK116.out 3).trans rfl
     have hcz46_4:wc.cell? ⟨gb116,4,none⟩ = some (.slice Ao13 t112.length co13):=(I BK116.out 4).trans rfl
     have hfz46_0:=J BK116.out 0
     have hfz46_1:=J BK116.out 1
     have hfz46_2:=J BK116.out 2
     have hfz46_3:=J BK116.out 3
     have hfz46_4:=J BK116.out 4
     have hcz47_0:wc.cell? ⟨gb101,0,none⟩ = some (.slice A0_0 l0_0.length c0_0):=(I BK101.out 0).trans rfl
     have hcz47_1:wc.cell? ⟨gb101,1,none⟩ = some (.slice A0_1 l0_1.length c0_1):=(I BK101.out 1).trans rfl
     have hcz47_2:wc.cell? ⟨gb101,2,none⟩ = some (.int .i64 a0_2):=(I BK101.out 2).trans rfl
     have hcz47_3:wc.cell? ⟨gb101,3,none⟩ = some (.int .i64 a0_3):=(I BK101.out 3).trans rfl
     have hcz47_4:wc.cell? ⟨gb101,4,none⟩ = some (.string a0_4):=(I BK101.out 4).trans rfl
     have hcz47_5:wc.cell? ⟨gb101,5,none⟩ = some (.string a0_5):=(I BK101.out 5).trans rfl
     have hcz47_6:wc.cell? ⟨gb101,6,none⟩ = some (.bool a0_6):=(I BK101.out 6).trans rfl
     have hcz47_7:wc.cell? ⟨gb101,7,none⟩ = some (.bool a0_7):=(I BK101.out 7).trans rfl
     have hfz47_0:=J BK101.out 0
     have hfz47_1:=J BK101.out 1
     have hfz47_2:=J BK101.out 2
     have hfz47_3:=J BK101.out 3
     have hfz47_4:=J BK101.out 4
     have hfz47_5:=J BK101.out 5
     have hfz47_6:=J BK101.out 6
     have hfz47_7:=J BK101.out 7
     go_wp2
     go_ret
     exact⟨by first|rfl|(simp[*,zv,zk] <;> rfl),by repeat(first|(with_reducible first|exact HB.out|apply O|apply U|apply L|refine qq ?_ GE101.out|refine qq ?_ GE116.out)|exact HB.out)⟩
    ·rw[if_neg c44] at H
     have c44b0:((t103.length:Int) == 0)=false:=beq_eq_false_iff_ne.mpr c44
     have c44b1:((t103.length:Int) != 0)=true:=bne_iff_ne.mpr c44
     have c44b2:¬ (t103=[]):=fun h_=>c44 (by rw[h_];rfl)
     by_cases c48:a0_5.toList=([]:List UInt8)
     ·rw[if_pos c48] at H
      have c48b0:(a0_5.toList == ([]:List UInt8))=true:=beq_iff_eq.mpr c48
      have c48b1:(a0_5.toList != ([]:List UInt8))=false:=bne_eq_false_iff_eq.mpr c48
      clear c48
      obtain rfl:=Option.some.inj H
      have hnb49:=NB116_101.out
      have hnc49:=NB101_116.out
      have hcz50_0:wc.cell? ⟨gb116,0,none⟩ = some (.string t102):=(I BK116.out 0).trans rfl
      have hcz50_1:wc.cell? ⟨gb116,1,none⟩ = some (.slice Ao10 t103.length co10):=(I BK116.out 1).trans rfl
      have hcz50_2:wc.cell? ⟨gb116,2,none⟩ = some (.slice Ao11 t106.length co11):=(I BK116.out 2).trans rfl
      have hcz50_3:wc.cell? ⟨gb116,3,none⟩ = some (.slice Ao12 t109.length co12):=(I BK116.out 3).trans rfl
      have hcz50_4:wc.cell? ⟨gb116,4,none⟩ = some (.slice Ao13 t112.length co13):=(I BK116.out 4).trans rfl
      have hfz50_0:=J BK116.out 0
      have hfz50_1:=J BK116.out 1
      have hfz50_2:=J BK116.out 2
      have hfz50_3:=J BK116.out 3
      have hfz50_4:=J BK116.out 4
      try go_wp2
      have hS_:=(show(fun w'=>w'.cell? ⟨gb101,0,none⟩ = some (.slice A0_0 l0_0.length c0_0)∧w'.cell? ⟨gb101,1,none⟩ = some (.slice A0_1 l0_1.length c0_1)∧w'.cell? ⟨gb101,2,none⟩ = some (.int .i64 a0_2)∧w'.cell? ⟨gb101,3,none⟩ = some (.int .i64 a0_3)∧w'.cell? ⟨gb101,4,none⟩ = some (.string a0_4)∧w'.cell? ⟨gb101,5,none⟩ = some (.string a0_5)∧w'.cell? ⟨gb101,6,none⟩ = some (.bool a0_6)∧w'.cell? ⟨gb101,7,none⟩ = some (.bool a0_7)) (wc) from⟨(I BK101.out 0).trans rfl,(I BK101.out 1).trans rfl,(I BK101.out 2).trans rfl,(I BK101.out 3).trans rfl,(I BK101.out 4).trans rfl,(I BK101.out 5).trans rfl,(I BK101.out 6).trans rfl,(I BK101.out 7).trans rfl⟩)
      obtain⟨hS0_,hS1_,hS2_,hS3_,hS4_,hS5_,hS6_,hS7_⟩:=hS_
      go_quiet (fail)
      clear hS0_ hS1_ hS2_ hS3_ hS4_ hS5_ hS6_ hS7_
      replace HO_117001:=X.mk (Kd.jw HO_117001.out nq)
      replace HO_117002:=X.mk (Kd.jw HO_117002.out nq)
      replace HO_117003:=X.mk (Kd.jw HO_117003.out nq)
      replace HO_117004:=X.mk (Kd.jw HO_117004.out nq)
      replace BK101:=X.mk (qj BK101.out nq)
      replace BK116:=X.mk (qj BK116.out nq)
      replace HB:=X.mk (U HB.out nq)
      generalize World.drewN wc nq=w51 at HO_117001 HO_117002 HO_117003 HO_117004 BK101 BK116 HB ⊢
      try go_wp2
      go_ret
      exact⟨by first|rfl|(simp[*,zv,zk] <;> rfl),by repeat(first|(with_reducible first|exact HB.out|apply O|apply U|apply L|refine qq ?_ GE101.out|refine qq ?_ GE116.out)|exact HB.out)⟩
     ·rw[if_neg c48] at H
      have c48b0:(a0_5.toList == ([]:List UInt8))=false:=beq_eq_false_iff_ne.mpr c48
      have c48b1:(a0_5.toList != ([]:List UInt8))=true:=bne_iff_ne.mpr c48
      replace H:=jq8.mp H
      obtain⟨t119,A520,H⟩:=H
      try dsimp only at H
      have A52:=X.mk A520
      clear A520
      replace H:=jq8.mp H
      obtain⟨t122,A530,H⟩:=H
      try dsimp only at H
      have A53:=X.mk A530
      clear A530
      obtain rfl:=Option.some.inj H
      have hnb54:=NB116_101.out
      have hnc54:=NB101_116.out
      have hcz55_0:wc.cell? ⟨gb116,0,none⟩ = some (.string t102):=(I BK116.out 0).trans rfl
      have hcz55_1:wc.cell? ⟨gb116,1,none⟩ = some (.slice Ao10 t103.length co10):=(I BK116.out 1).trans rfl
      have hcz55_2:wc.cell? ⟨gb116,2,none⟩ = some (.slice Ao11 t106.length co11):=(I BK116.out 2).trans rfl
      have hcz55_3:wc.cell? ⟨gb116,3,none⟩ = some (.slice Ao12 t109.length co12):=(I BK116.out 3).trans rfl
      have hcz55_4:wc.cell? ⟨gb116,4,none⟩ = some (.slice Ao13 t112.length co13):=(I BK116.out 4).trans rfl
      have hfz55_0:=J BK116.out 0
      have hfz55_1:=J BK116.out 1
      have hfz55_2:=J BK116.out 2
      have hfz55_3:=J BK116.out 3
      have hfz55_4:=J BK116.out 4
      try go_wp2
      replace HO_117001:=X.mk (Kd.kz HO_117001.out)
      replace HO_117002:=X.mk (Kd.kz HO_117002.out)
      replace HO_117003:=X.mk (Kd.kz HO_117003.out)
      replace HO_117004:=X.mk (Kd.kz HO_117004.out)
      replace BK101:=X.mk (qk BK101.out)
      replace BK116:=X.mk (qk BK116.out)
      replace HB:=X.mk (L HB.out)
      refine start_ (n:=15) (S:=fun w'=>w'.cell? ⟨gb101,0,none⟩ = some (.slice A0_0 l0_0.length c0_0)∧w'.cell? ⟨gb101,1,none⟩ = some (.slice A0_1 l0_1.length c0_1)∧w'.cell? ⟨gb101,2,none⟩ = some (.int .i64 a0_2)∧w'.cell? ⟨gb101,3,none⟩ = some (.int .i64 a0_3)∧w'.cell? ⟨gb101,4,none⟩ = some (.string a0_4)∧w'.cell? ⟨gb101,5,none⟩ = some (.string a0_5)∧w'.cell? ⟨gb101,6,none⟩ = some (.bool a0_6)∧w'.cell? ⟨gb101,7,none⟩ = some (.bool a0_7)∧w'.cell? ⟨gb116,0,none⟩ = some (.string t102)∧w'.cell? ⟨gb116,1,none⟩ = some (.slice Ao10 t103.length co10)∧w'.cell? ⟨gb116,2,none⟩ = some (.slice Ao11 t106.length co11)∧w'.cell? ⟨gb116,3,none⟩ = some (.slice Ao12 t109.length co12)∧w'.cell? ⟨gb116,4,none⟩ = some (.slice Ao13 t112.length co13)∧(Kd.int .u8).C w' Ao10 t103.length t103) (ds:=[]) #[Y,Y,Y,Y,Y,Y,Y,Y,Y,Y,Y,Y,Y,Y,Y] (by kernel_rfl) rfl rfl ⟨(I BK101.out 0).trans rfl,(I BK101.out 1).trans rfl,(I BK101.out 2).trans rfl,(I BK101.out 3).trans rfl,(I BK101.out 4).trans rfl,(I BK101.out 5).trans rfl,(I BK101.out 6).trans rfl,(I BK101.out 7).trans rfl,(I BK116.out 0).trans rfl,(I BK116.out 1).trans rfl,(I BK116.out 2).trans rfl,(I BK116.out 3).trans rfl,(I BK116.out 4).trans rfl,(Kd.V_reads' HO_117001.out).2.2⟩ (fun hHeld=>?_);refine with_tabW qkx.tab6 qkx.bits6 (fun HT_ HW_=>?_)
      generalize wc.drew=w56 at HO_117001 HO_117002 HO_117003 HO_117004 BK101 BK116 HB hHeld ⊢
      refine pure_ (i:=0) (N:=some 48) (v:=?_) (a':=?_) #[Z,Y,Y,Y,Y,Y,Y,Y,Y,Y,Y,Y,Y,Y,Y] rfl rfl (any_of HT_.out (by kernel_rfl)) (fun _ _ _ h=>h) (Or.inl ⟨by rfl,?_⟩) ?_ ?_
      rotate_left
      ·intro w'
       go_simp
       with_reducible rfl
      rotate_left
      ·simp only[Act.put,jq5,jq6,jq7,i64_w,i32_w]
       rfl
      refine take_ (i:=1) (N:=some 49) (v:=?_) (a':=?_) #[Z,Z,Y,Y,Y,Y,Y,Y,Y,Y,Y,Y,Y,Y,Y] rfl rfl (take_ofW HT_.out HW_.out (by kernel_rfl)) (fun _ _ _ h=>h) (Or.inl ⟨by rfl,?_⟩) hHeld ?_ ?_
      rotate_left
      ·rintro w' ⟨s0,s1,s2,s3,s4,s5,s6,s7,s8,s9,s10,s11,s12,s13⟩
       go_simp
       with_reducible rfl
      rotate_left
      ·simp only[Act.put,jq5,jq6,jq7,i64_w,i32_w]
       rfl
      refine pure_ (i:=2) (N:=some 50) (v:=?_) (a':=?_) #[Z,Z,Z,Y,Y,Y,Y,Y,Y,Y,Y,Y,Y,Y,Y] rfl rfl (any_of HT_.out (by kernel_rfl)) (fun _ _ _ h=>h) (Or.inl ⟨by rfl,?_⟩) ?_ ?_
      rotate_left
      ·intro w'
       go_simp
       with_reducible rfl
      rotate_left
      ·simp only[Act.put,jq5,jq6,jq7,i64_w,i32_w]
       rfl
      refine pure_ (i:=3) (N:=some 51) (v:=?_) (a':=?_) #[Z,Z,Z,Z,Y,Y,Y,Y,Y,Y,Y,Y,Y,Y,Y] rfl rfl (any_of HT_.out (by kernel_rfl)) (fun _ _ _ h=>h) (Or.inl ⟨by rfl,?_⟩) ?_ ?_
      rotate_left
      ·intro w'
       go_simp
       with_reducible rfl
      rotate_left
      ·simp only[Act.put,jq5,jq6,jq7,i64_w,i32_w]
       rfl
      refine pure_ (i:=4) (N:=some 52) (v:=?_) (a':=?_) #[Z,Z,Z,Z,Z,Y,Y,Y,Y,Y,Y,Y,Y,Y,Y] rfl rfl (any_of HT_.out (by kernel_rfl)) (fun _ _ _ h=>h) (Or.inl ⟨by rfl,?_⟩) ?_ ?_
      rotate_left
      ·intro w'
       go_simp
       with_reducible rfl
      rotate_left
      ·simp only[Act.put,jq5,jq6,jq7,i64_w,i32_w]
       rfl
      refine pure_ (i:=9) (N:=some 57) (v:=?_) (a':=?_) #[Z,Z,Z,Z,Z,Y,Y,Y,Y,Z,Y,Y,Y,Y,Y] rfl rfl (any_of HT_.out (by kernel_rfl)) (fun _ _ _ h=>h) (Or.inl ⟨by rfl,?_⟩) ?_ ?_
      rotate_left
      ·intro w'
       go_simp
       with_reducible rfl
      rotate_left
      ·simp only[Act.put,jq5,jq6,jq7,i64_w,i32_w]
       rfl
      refine take_ (i:=5) (N:=some 53) (v:=?_) (a':=?_) #[Z,Z,Z,Z,Z,Z,Y,Y,Y,Z,Y,Y,Y,Y,Y] rfl rfl (take_ofW HT_.out HW_.out (by kernel_rfl)) (fun _ _ _ h=>h) (Or.inl ⟨by rfl,?_⟩) hHeld ?_ ?_
      rotate_left
      ·rintro w' ⟨s0,s1,s2,s3,s4,s5,s6,s7,s8,s9,s10,s11,s12,s13⟩
       go_simp
       with_reducible rfl
      rotate_left
      ·simp only[Act.put,jq5,jq6,jq7,i64_w,i32_w]
       rfl
      refine take_ (i:=10) (N:=some 58) (v:=?_) (a':=?_) #[Z,Z,Z,Z,Z,Z,Y,Y,Y,Z,Z,Y,Y,Y,Y] rfl rfl (take_ofW HT_.out HW_.out (by kernel_rfl)) (fun _ _ _ h=>h) (Or.inl ⟨by rfl,?_⟩) hHeld ?_ ?_
      rotate_left
      ·rintro w' ⟨s0,s1,s2,s3,s4,s5,s6,s7,s8,s9,s10,s11,s12,s13⟩
       go_simp
       with_reducible rfl
      rotate_left
      ·simp only[Act.put,jq5,jq6,jq7,i64_w,i32_w]
       rfl
      refine take_ (i:=11) (N:=some 59) (v:=?_) (a':=?_) #[Z,Z,Z,Z,Z,Z,Y,Y,Y,Z,Z,Z,Y,Y,Y] rfl rfl (take_ofW HT_.out HW_.out (by kernel_rfl)) (fun _ _ _ h=>h) (Or.inl ⟨by rfl,?_⟩) hHeld ?_ ?_
      rotate_left
      ·rintro w' ⟨s0,s1,s2,s3,s4,s5,s6,s7,s8,s9,s10,s11,s12,s13⟩
       have hcvr:=Kd.C_string (P:=Try.prog) (dst:=9) (c:=co10) Try.underlying22 Try.underlying5 Try.underlying9 s13
       go_simp
       with_reducible rfl
      rotate_left
      ·simp only[Act.put,jq5,jq6,jq7,i64_w,i32_w]
       rfl
      refine one_ (i:=6) (N:=some 54) #[Z,Z,Z,Z,Z,Z,Z,Y,Y,Z,Z,Z,Y,Y,Y] rfl rfl (one_of HT_.out (by kernel_rfl)) (by decide) (fun K hK=>?_)
      refine bytesGoes_ (s:=a0_5) (by rfl) rfl rfl rfl ?_
      with_reducible refine(bytesOfS.calls a0_5 t119 _ A52.out).mono ?_
      rintro e w57 ⟨v120,rfl,ho0,hb⟩
      refine⟨_,rfl,?_⟩
      replace HO_117001:=X.mk (Kd.V_below (by(with_reducible repeat(first|apply Kd.jx|apply Kd.jw|apply Kd.kz));exact HO_117001.out) hb)
      replace HO_117002:=X.mk (Kd.V_below (by(with_reducible repeat(first|apply Kd.jx|apply Kd.jw|apply Kd.kz));exact HO_117002.out) hb)
      replace HO_117003:=X.mk (Kd.V_below (by(with_reducible repeat(first|apply Kd.jx|apply Kd.jw|apply Kd.kz));exact HO_117003.out) hb)
      replace HO_117004:=X.mk (Kd.V_below (by(with_reducible repeat(first|apply Kd.jx|apply Kd.jw|apply Kd.kz));exact HO_117004.out) hb)
      have HO121:=X.mk (Kd.V_lower (Kd.V_mono (ok':=fun k_=>k_≠gb101∧k_≠gb116) ho0 (fun k_ hk_=>⟨(Kd.freshB (g:=gb101) (o:=.cells #[.slice A0_0 l0_0.length c0_0,.slice A0_1 l0_1.length c0_1,.int .i64 a0_2,.int .i64 a0_3,.string a0_4,.string a0_5,.bool a0_6,.bool a0_7] 62 (0,0)) (by solve_by_elim only[BK101.out,qj,qk,qz]) k_ hk_),(Kd.freshB (g:=gb116) (o:=.cells #[.string t102,.slice Ao10 t103.length co10,.slice Ao11 t106.length co11,.slice Ao12 t109.length co12,.slice Ao13 t112.length co13] 77 (0,0)) (by solve_by_elim only[BK116.out,qj,qk,qz]) k_ hk_)⟩)) (qx (by solve_by_elim (maxDepth:=20) only[HB.out,O,U,L,qq,GE101.out,qq,GE116.out])))
      replace BK101:=X.mk (kj (g:=gb101) (o:=.cells #[.slice A0_0 l0_0.length c0_0,.slice A0_1 l0_1.length c0_1,.int .i64 a0_2,.int .i64 a0_3,.string a0_4,.string a0_5,.bool a0_6,.bool a0_7] 62 (0,0)) (by solve_by_elim only[BK101.out,qj,qk,qz]) hb)
      replace BK116:=X.mk (kj (g:=gb116) (o:=.cells #[.string t102,.slice Ao10 t103.length co10,.slice Ao11 t106.length co11,.slice Ao12 t109.length co12,.slice Ao13 t112.length co13] 77 (0,0)) (by solve_by_elim only[BK116.out,qj,qk,qz]) hb)
      replace HB:=X.mk (qw (by solve_by_elim (maxDepth:=20) only[HB.out,O,U,L,qq,GE101.out,qq,GE116.out]) hb)
      (try clear hb)
      (try clear hb2)
      (try clear hk)
      (try clear hi)
      (try clear ho0)
      obtain⟨Ao58,co58,eo58⟩:=Kd.V_slice HO121.out
      (first|subst eo58|(injection eo58 with f1_ f2_ f3_;have f4_:=f1_.symm;have f5_:=f3_.symm;clear f1_ f2_ f3_;subst f4_;subst f5_))
      refine hK.out _ _ ⟨(I BK101.out 0).trans rfl,(I BK101.out 1).trans rfl,(I BK101.out 2).trans rfl,(I BK101.out 3).trans rfl,(I BK101.out 4).trans rfl,(I BK101.out 5).trans rfl,(I BK101.out 6).trans rfl,(I BK101.out 7).trans rfl,(I BK116.out 0).trans rfl,(I BK116.out 1).trans rfl,(I BK116.out 2).trans rfl,(I BK116.out 3).trans rfl,(I BK116.out 4).trans rfl,(Kd.V_reads' HO_117001.out).2.2⟩ (fun hHeld=>?_)
      clear hK K
      refine norm_ (a':=?_) ?_ ?_
      rotate_left
      ·show Act.put _ (some 54) _=_
       simp only[Act.put,jq5,jq6,jq7,i64_w,i32_w]
       rfl
      refine one_ (i:=7) (N:=some 55) #[Z,Z,Z,Z,Z,Z,Z,Z,Y,Z,Z,Z,Y,Y,Y] rfl rfl (one_of HT_.out (by kernel_rfl)) (by decide) (fun K hK=>?_)
      refine goes_ Try.func61 (by kernel_rfl) rfl #[.slice Ao58 t119.length co58] (by rfl) rfl rfl (by(try simp only[jq0,jq1,jq2]);first|done|rfl|(simp only[jq3,jq4];rfl)) ?_
      with_reducible refine(qwv.calls kj2 _ _ t119 t122 _ ?side1 ?side2 A53.out).mono ?_
      (case side1=>solve_by_elim only[(Kd.V_reads' HO121.out).2.2,Kd.C_alloc,Kd.C_drewN,Kd.C_drew])
      (case side2=>exact(Kd.V_reads' HO121.out).2.1)
      rintro e w59 ⟨v123,rfl,ho0,hb⟩
      refine⟨_,rfl,?_⟩
      replace HO_117001:=X.mk (Kd.V_elder' (by(with_reducible repeat(first|apply Kd.jx|apply Kd.jw|apply Kd.kz));exact HO_117001.out) (Kd.R_base ho0) hb)
      replace HO_117002:=X.mk (Kd.V_elder' (by(with_reducible repeat(first|apply Kd.jx|apply Kd.jw|apply Kd.kz));exact HO_117002.out) (Kd.R_base ho0) hb)
      replace HO_117003:=X.mk (Kd.V_elder' (by(with_reducible repeat(first|apply Kd.jx|apply Kd.jw|apply Kd.kz));exact HO_117003.out) (Kd.R_base ho0) hb)
      replace HO_117004:=X.mk (Kd.V_elder' (by(with_reducible repeat(first|apply Kd.jx|apply Kd.jw|apply Kd.kz));exact HO_117004.out) (Kd.R_base ho0) hb)
      replace HO121:=X.mk (Kd.V_elder' (by(with_reducible repeat(first|apply Kd.jx|apply Kd.jw|apply Kd.kz));exact HO121.out) (Kd.R_base ho0) hb)
      have HO124:=X.mk (Kd.R_lower ho0 (qx (by solve_by_elim (maxDepth:=20) only[HB.out,O,U,L,qq,GE101.out,qq,GE116.out])))
      replace BK101:=X.mk (kj (g:=gb101) (o:=.cells #[.slice A0_0 l0_0.length c0_0,.slice A0_1 l0_1.length c0_1,.int .i64 a0_2,.int .i64 a0_3,.string a0_4,.string a0_5,.bool a0_6,.bool a0_7] 62 (0,0)) (by solve_by_elim only[BK101.out,qj,qk,qz]) hb)
      replace BK116:=X.mk (kj (g:=gb116) (o:=.cells #[.string t102,.slice Ao10 t103.length co10,.slice Ao11 t106.length co11,.slice Ao12 t109.length co12,.slice Ao13 t112.length co13] 77 (0,0)) (by solve_by_elim only[BK116.out,qj,qk,qz]) hb)
      replace HB:=X.mk (qw (by solve_by_elim (maxDepth:=20) only[HB.out,O,U,L,qq,GE101.out,qq,GE116.out]) hb)
      (try clear hb)
      (try clear hb2)
      (try clear hk)
      (try clear hi)
      (try clear ho0)
      refine hK.out _ _ ⟨(I BK101.out 0).trans rfl,(I BK101.out 1).trans rfl,(I BK101.out 2).trans rfl,(I BK101.out 3).trans rfl,(I BK101.out 4).trans rfl,(I BK101.out 5).trans rfl,(I BK101.out 6).trans rfl,(I BK101.out 7).trans rfl,(I BK116.out 0).trans rfl,(I BK116.out 1).trans rfl,(I BK116.out 2).trans rfl,(I BK116.out 3).trans rfl,(I BK116.out 4).trans rfl,(Kd.V_reads' HO_117001.out).2.2⟩ (fun hHeld=>?_)
      clear hK K
      refine norm_ (a':=?_) ?_ ?_
      rotate_left
      ·show Act.put _ (some 55) _=_
       simp only[Act.put,jq5,jq6,jq7,i64_w,i32_w]
       rfl
      refine one_ (i:=8) (N:=some 56) #[Z,Z,Z,Z,Z,Z,Z,Z,Z,Z,Z,Z,Y,Y,Y] rfl rfl (one_of HT_.out (by kernel_rfl)) (by decide) (fun K hK=>?_)
      have hcv60:=own_string (P:=Try.prog) Try.underlying22 Try.underlying5 Try.underlying9 (Kd.own_of_R HO124.out)
      refine value_ (w1:=?_) (v:=?_) (by rfl) rfl ?_ ?_
      rotate_left 2
      ·go_simp
       constructor
       ·rfl
       ·rfl
      clear hcv60
      refine hK.out _ _ ⟨(I BK101.out 0).trans rfl,(I BK101.out 1).trans rfl,(I BK101.out 2).trans rfl,(I BK101.out 3).trans rfl,(I BK101.out 4).trans rfl,(I BK101.out 5).trans rfl,(I BK101.out 6).trans rfl,(I BK101.out 7).trans rfl,(I BK116.out 0).trans rfl,(I BK116.out 1).trans rfl,(I BK116.out 2).trans rfl,(I BK116.out 3).trans rfl,(I BK116.out 4).trans rfl,(Kd.V_reads' HO_117001.out).2.2⟩ (fun hHeld=>?_)
      clear hK K
      refine norm_ (a':=?_) ?_ ?_
      rotate_left
      ·show Act.put _ (some 56) _=_
       simp only[Act.put,jq5,jq6,jq7,i64_w,i32_w]
       rfl
      refine pure_ (i:=12) (N:=some 60) (v:=?_) (a':=?_) #[Z,Z,Z,Z,Z,Z,Z,Z,Z,Z,Z,Z,Z,Y,Y] rfl rfl (any_of HT_.out (by kernel_rfl)) (fun _ _ _ h=>h) (Or.inl ⟨by rfl,?_⟩) ?_ ?_
      rotate_left
      ·intro w'
       go_simp
       with_reducible rfl
      rotate_left
      ·simp only[Act.put,jq5,jq6,jq7,i64_w,i32_w]
       rfl
      refine pure_ (i:=13) (N:=some 61) (v:=?_) (a':=?_) #[Z,Z,Z,Z,Z,Z,Z,Z,Z,Z,Z,Z,Z,Z,Y] rfl rfl (any_of HT_.out (by kernel_rfl)) (fun _ _ _ h=>h) (Or.inl ⟨by rfl,?_⟩) ?_ ?_
      rotate_left
      ·intro w'
       go_simp
       with_reducible rfl
      rotate_left
      ·simp only[Act.put,jq5,jq6,jq7,i64_w,i32_w]
       rfl
      refine pure_ (i:=14) (N:=some 2) (v:=?_) (a':=?_) #[Z,Z,Z,Z,Z,Z,Z,Z,Z,Z,Z,Z,Z,Z,Z] rfl rfl (any_of HT_.out (by kernel_rfl)) (fun _ _ _ h=>h) (Or.inl ⟨by rfl,?_⟩) ?_ ?_
      rotate_left
      ·intro w'
       go_simp
       with_reducible rfl
      rotate_left
      ·simp only[Act.put,jq5,jq6,jq7,i64_w,i32_w]
       rfl
      refine done_ (done_of HT_.out (by kernel_rfl)) ?_
      try go_wp2
      go_ret
      exact⟨by first|rfl|(simp[*,zv,zk] <;> rfl),by repeat(first|(with_reducible first|exact HB.out|apply O|apply U|apply L|refine qq ?_ GE101.out|refine qq ?_ GE116.out)|exact HB.out)⟩
end Go.Proofs.Ytakocdkcfjkmdaa.Pr
namespace Go.Proofs.Ytakocdkcfjkmdaa.Pr
open Go.RowKit Go.Proofs.YtakocdkcfjkmdaaW.PrintWords Go.Proofs.YtakocdkcfjkmdaaW.PrintLast Go.Proofs.YtakocdkcfjkmdaaW.PrintMore
attribute [local go_sem] max2_int min2_int max_two min_two max_three min_three max_four min_four
set_option linter.unusedVariables false
set_option linter.unusedSimpArgs false
def xj.f (a0:Int):Option (List Int):=some (([(a0) % 256,(a0 / 256) % 256,(a0 / 65536) % 256,(a0 / 16777216) % 256]:List Int))
theorem xj.calls (a0:Int) (r:List Int) (w:World) (h:xj.f a0=some r) :
  Calls Try.prog 89 #[.int .i64 a0] w fun e w'=>∃ v0_:Value,e=.returned (v0_)∧Kd.R (Kd.int .u8) 5 w' w.heap.size (fun _=>True) v0_ r∧Below w.heap.size w w':=by
 have HB:=X.mk (Below.refl w.heap.size w)
 unfold xj.f at h
 have H:=h
 clear h
 obtain⟨y101,hy101⟩ : ∃ y_:List Int,y_=(([(a0) % 256,(a0 / 256) % 256,(a0 / 65536) % 256,(a0 / 16777216) % 256]:List Int)):=⟨_,rfl⟩
 replace H:(some y101)=some r:=by first|(rw[hy101];with_reducible exact H)|(have H2_:=(Option.bind_some _ _).symm.trans H;rw[hy101];with_reducible exact H2_)|(have H2_:=(Option.bind_some _ _).symm.trans H;with_reducible exact H2_)|with_reducible exact H|(rw[hy101];exact H)|exact H
 have Ny101:=X.mk hy101
 clear hy101
 obtain rfl:=Option.some.inj H
 go_enter Try.func89,Try.ntmps89
 go_wp2_with (first|((with_reducible refine gate_dst (N:=14) rfl ?_);refine Kd.R_lit (Kd.int .u8) _ 5 ?hg (N:=14) ?hd (xs:=([(a0) % 256,(a0 / 256) % 256,(a0 / 65536) % 256,(a0 / 16777216) % 256]:List Int)) (inner:=[.int .u8 ((a0) % 256),.int .u8 ((a0 / 256) % 256),.int .u8 ((a0 / 65536) % 256),.int .u8 ((a0 / 16777216) % 256)]) (ok:=fun _=>True) (okp:=fun _=>True) ?hr ?hp (fun _ hk=>hk) trivial (Below.refl _ _) (Nat.le_refl _) (by simp) ?_;(case hd=>rfl);(case hg=>rfl);(case hr=>first|(go_simp;done)|(go_simp;rfl));(case hp=>exact(Reps.one (show Kd.M (Kd.int .u8) _ _ _ ((a0) % 256) [.int .u8 ((a0) % 256)] from rfl) (Reps.one (show Kd.M (Kd.int .u8) _ _ _ ((a0 / 256) % 256) [.int .u8 ((a0 / 256) % 256)] from rfl) (Reps.one (show Kd.M (Kd.int .u8) _ _ _ ((a0 / 65536) % 256) [.int .u8 ((a0 / 65536) % 256)] from rfl) (Reps.one (show Kd.M (Kd.int .u8) _ _ _ ((a0 / 16777216) % 256) [.int .u8 ((a0 / 16777216) % 256)] from rfl) (Reps.none _ _))))));intro v102 w2 ho3 hb hg_ hnew_;clear hg_ hnew_;(first|rw[← Ny101.out] at ho3|(simp only[Int.reduceToNat] at ho3;rw[← Ny101.out] at ho3));have HO103:=X.mk (Kd.R_lower ho3 (qx (by solve_by_elim only[HB.out,O,U,L])));replace HB:=X.mk (qw (by solve_by_elim only[HB.out,O,U,L]) hb);clear hb ho3))
 go_ret
 exact⟨_,by first|rfl|(simp[*,zv,zk] <;> rfl),by(with_reducible repeat(first|apply Kd.zz|apply Kd.zq|apply Kd.zj));exact HO103.out,by repeat(first|(with_reducible first|exact HB.out|apply O|apply U|apply L)|exact HB.out)⟩
end Go.Proofs.Ytakocdkcfjkmdaa.Pr
namespace Go.Proofs.Ytakocdkcfjkmdaa.Pr
open Go.RowKit Go.Proofs.YtakocdkcfjkmdaaW.PrintWords Go.Proofs.YtakocdkcfjkmdaaW.PrintLast Go.Proofs.YtakocdkcfjkmdaaW.PrintMore
set_option linter.unusedVariables false
def mulT:List Int:=[1103515245,69069,1664525,22695477]
def stepAt (a:List Int) (x:Int) (i:Nat):List Int:=a.set i ((a.getD i 0 * mulT.getD i 0 + x + 1 + a.getD ((i+1)%4) 0) % 2147483579)
def mixN (a:List Int) (x:Int):Nat→List Int
 | 0=>a
 | i+1=>stepAt (mixN a x i) x i
structure OnlyB (w w':World) (g:Nat):Prop where
 os:w'.os=w.os
 tape:w'.tape=w.tape
 output:w'.output=w.output
 size:w'.heap.size=w.heap.size
 block:∀ k,k≠g→w'.heap[k]? = w.heap[k]?
theorem OnlyB.refl (w:World) (g:Nat):OnlyB w w g:=⟨rfl,rfl,rfl,rfl,fun _ _=>rfl⟩
theorem OnlyB.drew {w w':World} {g:Nat} (h:OnlyB w w' g):OnlyB w w'.drew g:=⟨h.os,h.tape,h.output,h.size,h.block⟩
theorem OnlyB.set {w w':World} {g:Nat} (h:OnlyB w w' g) (j:Nat) (u:Value):OnlyB w (w'.setCell ⟨g,j,none⟩ u) g :=
 ⟨h.os,h.tape,h.output,by simpa [World.setCell] using h.size,fun k hk=>(Below.heap_setCell w' ⟨g,j,none⟩ u k hk).trans (h.block k hk)⟩
theorem mulOk:∀ j:Nat,j < 4→0≤mulT.getD j 0∧mulT.getD j 0 < 2147483579:=by decide
theorem mix_len (l:List Int) (x:Int) (k:Nat):(mixN l x k).length=l.length:=by
 induction k with
 | zero=>rfl
 | succ k ih=>simp[mixN,stepAt,ih]
theorem prod_bd {a b:Int} (ha : 0≤a) (ha2:a < 2147483579) (hb : 0≤b) (hb2:b < 2147483579) : 0≤a * b∧a * b≤4611685717779682084:=by
 refine⟨Int.mul_nonneg ha hb,?_⟩
 have:=Int.mul_le_mul (show a≤2147483578 by omega) (show b≤2147483578 by omega) hb (by omega)
 omega
theorem mix_bd (l:List Int) (x:Int) (hx : 0≤x) (hl:l.length=4) (hb:∀ j,j < 4→0≤l.getD j 0∧l.getD j 0 < 2147483579) (k:Nat) (hk:k≤4):∀ j,j < 4→0≤(mixN l x k).getD j 0∧(mixN l x k).getD j 0 < 2147483579:=by
 induction k with
 | zero=>exact hb
 | succ k ih =>
  intro j hj
  have ih:=ih (by omega)
  have hlen:=mix_len l x k
  simp only[mixN,stepAt]
  by_cases e:j=k
  ·subst e
   rw[List.getD_eq_getElem?_getD,List.getElem?_set_self (by omega)]
   simp only[Option.getD_some]
   omega
  ·rw[List.getD_eq_getElem?_getD,List.getElem?_set_ne (by omega),← List.getD_eq_getElem?_getD]
   exact ih j hj
theorem nums_cell {w:World} {g:Nat} {l:List Int} {t:TypeId} (h:w.heap[g]? = some (.cells (nums .i64 l).toArray t (0,0))) (k:Nat) (hk:k < l.length):w.cell? ⟨g,k,none⟩ = some (.int .i64 (l.getD k 0)):=by
 rw[I h]
 simp[nums,List.getElem?_map,List.getElem?_eq_getElem hk,List.getD_eq_getElem?_getD]
set_option maxHeartbeats 1000000 in
theorem eat_calls (x:Int) (l:List Int) (hl:l.length=4) (hb:∀ j,j < 4→0≤l.getD j 0∧l.getD j 0 < 2147483579) (ga gm:Nat) (w:World) (hx0 : 0≤x) (hx1:x≤255)
 (ha:w.heap[ga]? = some (.cells (nums .i64 l).toArray 107 (0,0))) (hm:w.heap[gm]? = some (.cells (nums .i64 mulT).toArray 107 (0,0))) (hne:ga≠gm) :
 Calls Try.prog 88 #[.int .u8 x,.pointer (some ⟨ga,0,none⟩),.pointer (some ⟨gm,0,none⟩)] w fun e w'=>e=.returned (.tuple #[])∧w'.heap[ga]? = some (.cells (nums .i64 (mixN l x 4)).toArray 107 (0,0))∧OnlyB w w' ga:=by
 have HL:=X.mk hl;have HB:=X.mk hb;have HA:=X.mk ha;have HM:=X.mk hm
 clear hl hb ha hm
 go_enter Try.func88,Try.ntmps88
 go_wp2
 go_loopw [5] (fun i wr=>∃ k:Nat,k≤4∧i=.int .i64 k∧X (wr.heap[ga]? = some (.cells (nums .i64 (mixN l x k)).toArray 107 (0,0))∧OnlyB w wr ga)) (fun i _=>4 - (intOf i).toNat)
 case atStart=>exact⟨0,by omega,rfl,⟨HA.out,OnlyB.refl _ _⟩⟩
 case round =>
  obtain⟨k,hk,rfl,HW⟩:=hrel
  by_cases hlt:k < 4
  ·obtain⟨a,ea⟩ : ∃ a,a=mixN l x k:=⟨_,rfl⟩
   have hc1:=nums_cell HW.out.1 k (by rw[mix_len,HL.out];omega)
   have hc2:=nums_cell HW.out.1 ((k+1)%4) (by rw[mix_len,HL.out];omega)
   have hc3:=nums_cell ((HW.out.2.block gm (Ne.symm hne)).trans HM.out) k hlt
   have hf:=J HW.out.1 k
   have b1:=mix_bd l x hx0 HL.out HB.out k hk k hlt
   have b2:=mix_bd l x hx0 HL.out HB.out k hk ((k+1)%4) (by omega)
   have b3:=mulOk k hlt
   obtain⟨p1,eP1⟩ : ∃ p,p=(mixN l x k).getD k 0:=⟨_,rfl⟩
   obtain⟨p2,eP2⟩ : ∃ p,p=(mixN l x k).getD ((k+1)%4) 0:=⟨_,rfl⟩
   obtain⟨p3,eP3⟩ : ∃ p,p=mulT.getD k 0:=⟨_,rfl⟩
   rw[← eP1] at hc1 b1;rw[← eP2] at hc2 b2;rw[← eP3] at hc3 b3
   have b4:=prod_bd b1.1 b1.2 b3.1 b3.2
   have EP1:=X.mk eP1;have EP2:=X.mk eP2;have EP3:=X.mk eP3;have EA:=X.mk ea
   clear eP1 eP2 eP3 ea
   go_wp2
   have e1:IntKind.i64.wrap (p1 * p3)=p1 * p3:=IntWalk.i64_in _ (by omega)
   have e2:IntKind.i64.wrap x=x:=IntWalk.i64_in _ (by omega)
   have e3:IntKind.i64.wrap (p1 * p3 + x)=p1 * p3 + x:=IntWalk.i64_in _ (by omega)
   have e4:IntKind.i64.wrap (p1 * p3 + x + 1)=p1 * p3 + x + 1:=IntWalk.i64_in _ (by omega)
   have e5:IntKind.i64.wrap (k + 1)=k + 1:=IntWalk.i64_in _ (by omega)
   have e6:((k:Int) + 1).tmod 4=((k:Int) + 1) % 4:=Int.tmod_eq_emod_of_nonneg (by omega)
   have e7:IntKind.i64.wrap (p1 * p3 + x + 1 + p2)=p1 * p3 + x + 1 + p2:=IntWalk.i64_in _ (by omega)
   have e8:(p1 * p3 + x + 1 + p2).tmod 2147483579=(p1 * p3 + x + 1 + p2) % 2147483579:=Int.tmod_eq_emod_of_nonneg (by omega)
   have n0 : 0≤((k:Int) + 1) % 4:=by omega
   have n4:((k:Int) + 1) % 4 < 4:=by omega
   have n1:(((k:Int) + 1) % 4).toNat=(k + 1) % 4:=by omega
   go_still_tail 20,(by kernel_rfl)
   clear e1 e2 e3 e4 e5 e6 e7 e8 n0 n4 n1
   skip
   change wpList _ _ _ _ _ wr.drew
   have HW2:X (wr.drew.heap[ga]? = some (.cells (nums .i64 (mixN l x k)).toArray 107 (0,0))∧OnlyB w wr.drew ga):=⟨HW.out.1,HW.out.2.drew⟩
   clear HW hc1 hc2 hc3 hf
   generalize wr.drew=w2 at HW2 ⊢
   have hc1:=nums_cell HW2.out.1 k (by rw[mix_len,HL.out];omega)
   have hf:=J HW2.out.1 k
   go_wp2
   go_roundw
   case rel =>
    refine⟨k + 1,by omega,by go_num,?_,HW2.out.2.set _ _⟩
    rw[blk_set HW2.out.1]
    simp only[mixN,stepAt,nums,List.map_set,jq5,EP1.out,EP2.out,EP3.out]
   case measure=>simp[intOf];omega
  ·go_wp2
   obtain rfl:k=4:=by omega
   exact bodyPost_end (results_none rfl _ _ _) rfl ⟨rfl,HW.out.1,HW.out.2⟩
def isBytes (l:List Int):Prop:=∀ x ∈ l,0≤x∧x≤255
instance (l:List Int):Decidable (isBytes l):=by unfold isBytes;infer_instance
def dgMix (a:List Int) (x:Int):List Int:=mixN a x 4
def dgAll (a:List Int) (xs:List Int):List Int:=xs.foldl dgMix a
def yb (n:Int):List Int:=[n % 256,(n / 256) % 256,(n / 65536) % 256,(n / 16777216) % 256]
def dgS (l:List Int):List Int:=dgAll (dgAll (dgAll [11,22,33,44] l) (yb l.length)) (List.replicate 8 0)
def dg (l:List Int):List Int:=(dgS l).flatMap yb
def wq.f (l0:List Int):Option (List Int):=if isBytes l0 then(if (l0.length:Int) > 20000 then some [] else some (dg l0)) else none
theorem yb_bytes (n:Int):isBytes (yb n):=by
 intro x hx
 simp only[yb,List.mem_cons,List.not_mem_nil,or_false] at hx
 omega
theorem yb_len (n:Int):(yb n).length=4:=rfl
structure DigInv (w wr:World) (a:List Int):Prop where
 A:wr.heap[w.heap.size]? = some (.cells (nums .i64 a).toArray 107 (0,0))
 M:wr.heap[w.heap.size + 1]? = some (.cells (nums .i64 mulT).toArray 107 (0,0))
 B:Below w.heap.size w wr
 len:a.length=4
 bd:∀ j,j < 4→0≤a.getD j 0∧a.getD j 0 < 2147483579
theorem DigInv.to {w wr w':World} {a:List Int} {x:Int} (h:DigInv w wr a) (hx : 0≤x) (h1:w'.heap[w.heap.size]? = some (.cells (nums .i64 (mixN a x 4)).toArray 107 (0,0))) (h2:OnlyB wr w' w.heap.size):DigInv w w' (dgMix a x) :=
 ⟨h1,(h2.block _ (by omega)).trans h.M,⟨h2.os.trans h.B.os,h2.tape.trans h.B.tape,h2.output.trans h.B.output,by rw[h2.size];exact h.B.size,fun k hk=>(h2.block k (by omega)).trans (h.B.block k hk)⟩,by rw[dgMix,mix_len,h.len],mix_bd a x hx h.len h.bd 4 (by omega)⟩
theorem DigInv.drew {w wr:World} {a:List Int} (h:DigInv w wr a):DigInv w wr.drew a:=⟨h.A,h.M,h.B.drew,h.len,h.bd⟩
theorem DigInv.keep {w wr w':World} {a:List Int} (h:DigInv w wr a) (hb:Below (w.heap.size + 2) wr w'):DigInv w w' a :=
 ⟨(hb.block _ (by omega)).trans h.A,(hb.block _ (by omega)).trans h.M,h.B.trans (hb.mono (by omega)),h.len,h.bd⟩
theorem DigInv.lt {w wr:World} {a:List Int} (h:DigInv w wr a):w.heap.size + 2≤wr.heap.size:=blk_lt h.M
theorem eat_inv {w wr:World} {a:List Int} (h:DigInv w wr a) (x:Int) (hx0 : 0≤x) (hx1:x≤255) :
  Calls Try.prog 88 #[.int .u8 x,.pointer (some ⟨w.heap.size,0,none⟩),.pointer (some ⟨w.heap.size + 1,0,none⟩)] wr fun e w'=>e=.returned (.tuple #[])∧DigInv w w' (dgMix a x)∧OnlyB wr w' w.heap.size :=
 (eat_calls x a h.len h.bd _ _ wr hx0 hx1 h.A h.M (by omega)).mono fun e w' ⟨he,h1,h2⟩=>⟨he,h.to hx0 h1 h2,h2⟩
theorem DigInv.start (w:World):DigInv w ((w.alloc (.cells #[.int .i64 11,.int .i64 22,.int .i64 33,.int .i64 44] 107)).alloc (.cells #[.int .i64 1103515245,.int .i64 69069,.int .i64 1664525,.int .i64 22695477] 107)) [11,22,33,44] :=
 ⟨qz (blk_new w _) _,by have:=blk_new (w.alloc (.cells #[.int .i64 11,.int .i64 22,.int .i64 33,.int .i64 44] 107)) (.cells (nums .i64 mulT).toArray 107 (0,0));simpa [nums,mulT] using this,((Below.refl _ _).alloc (Nat.le_refl _) _).alloc (by simp) _,rfl,by decide⟩
theorem rd_mem {l:List Int} {k:Nat} (h:k < l.length):rd l k ∈ l:=by
 simp[rd,List.getD_eq_getElem?_getD,List.getElem?_eq_getElem h]
theorem take_snoc_rd {l:List Int} {k:Nat} (h:k < l.length):l.take (k + 1)=l.take k ++ [rd l k]:=by
 rw[List.take_succ_eq_append_getElem h];simp[rd,List.getD_eq_getElem?_getD,List.getElem?_eq_getElem h]
theorem dgAll_nil (a:List Int):dgAll a []=a:=rfl
theorem dgAll_snoc (a l:List Int) (x:Int):dgAll a (l ++ [x])=dgMix (dgAll a l) x:=by simp[dgAll]
theorem R_only {α:Type} {d:Kd α} {e base:Nat} {w w':World} {ok:Nat→Prop} {v:Value} {xs:List α} (h:d.R e w base ok v xs) {g:Nat} (ho:OnlyB w w' g) (hg:g < base):d.R e w' base ok v xs :=
 Kd.R_mono (Kd.R_move (Kd.R_bound h) (fun k hk=>ho.block k (by have:=hk.2.1;omega))) (fun _ hk=>hk.1)
theorem R_at {e base n c:Nat} {w:World} {ok:Nat→Prop} {kd:IntKind} {A:Option Addr} {xs:List Int} (h:(Kd.int kd).R e w base ok (.slice A n c) xs) (k:Nat) (hk:k < xs.length) :
  ∃ ad,A=some ad∧w.cell? (ad.add k)=some (.int kd (rd xs k)):=by
 obtain⟨A',c',he,_,hC⟩:=Kd.R_reads h
 injection he with h1 h2 h3
 subst h1
 obtain⟨ad,h4,h5⟩:=Kd.at_int hC k (by omega) (by omega)
 exact⟨ad,h4,by simpa using h5⟩
theorem agg4_index0 (b0 b1 b2 b3:Int) (W:World):(Instr.index 107 (.agg #[.int .i64 b0,.int .i64 b1,.int .i64 b2,.int .i64 b3]) (.int .i64 0)).run Try.prog W=.ok (.int .i64 b0) W:=by kernel_rfl
theorem agg4_index1 (b0 b1 b2 b3:Int) (W:World):(Instr.index 107 (.agg #[.int .i64 b0,.int .i64 b1,.int .i64 b2,.int .i64 b3]) (.int .i64 1)).run Try.prog W=.ok (.int .i64 b1) W:=by kernel_rfl
theorem agg4_index2 (b0 b1 b2 b3:Int) (W:World):(Instr.index 107 (.agg #[.int .i64 b0,.int .i64 b1,.int .i64 b2,.int .i64 b3]) (.int .i64 2)).run Try.prog W=.ok (.int .i64 b2) W:=by kernel_rfl
theorem agg4_index3 (b0 b1 b2 b3:Int) (W:World):(Instr.index 107 (.agg #[.int .i64 b0,.int .i64 b1,.int .i64 b2,.int .i64 b3]) (.int .i64 3)).run Try.prog W=.ok (.int .i64 b3) W:=by kernel_rfl
theorem agg4_index (b0 b1 b2 b3:Int) (k:Nat) (hk:k < 4) (W:World):(Instr.index 107 (.agg #[.int .i64 b0,.int .i64 b1,.int .i64 b2,.int .i64 b3]) (.int .i64 (k:Int))).run Try.prog W=.ok (.int .i64 (rd [b0,b1,b2,b3] k)) W:=by
 rcases k with _|_|_|_|k
 ·exact agg4_index0 b0 b1 b2 b3 W
 ·exact agg4_index1 b0 b1 b2 b3 W
 ·exact agg4_index2 b0 b1 b2 b3 W
 ·exact agg4_index3 b0 b1 b2 b3 W
 ·omega
set_option maxHeartbeats 1000000 in
theorem wq.calls (A0:Option Addr) (c0:Nat) (l0:List Int) (r:List Int) (w:World) (hr0:Kd.C (Kd.int .u8) w A0 l0.length l0) (hc0:l0.length≤c0) (h:wq.f l0=some r) :
  Calls Try.prog 65 #[.slice A0 l0.length c0] w fun e w'=>∃ v0_:Value,e=.returned (v0_)∧Kd.R (Kd.int .u8) 5 w' w.heap.size (fun _=>True) v0_ r∧Below w.heap.size w w':=by
 have HR0:=X.mk hr0
 have HC0:=X.mk hc0
 clear hr0 hc0
 unfold wq.f at h
 by_cases hb:isBytes l0
 case neg=>rw[if_neg hb] at h;cases h
 rw[if_pos hb] at h
 have HBY:=X.mk hb
 clear hb
 by_cases hbig:(l0.length:Int) > 20000
 ·rw[if_pos hbig] at h
  obtain rfl:=Option.some.inj h
  clear h
  go_enter Try.func65,Try.ntmps65
  go_wp2
  go_ret
  exact⟨_,rfl,Kd.R_nil _ _ _ _ _,Below.refl _ _⟩
 ·rw[if_neg hbig] at h
  obtain rfl:=Option.some.inj h
  clear h
  go_enter Try.func65,Try.ntmps65
  go_wp2
  have HI:=X.mk (DigInv.start w)
  generalize ((w.alloc (.cells #[.int .i64 11,.int .i64 22,.int .i64 33,.int .i64 44] 107)).alloc (.cells #[.int .i64 1103515245,.int .i64 69069,.int .i64 1664525,.int .i64 22695477] 107))=w2 at HI ⊢
  go_loopw [21] (fun i wr=>∃ k:Nat,k≤l0.length∧i=.int .i64 k∧X (DigInv w wr (dgAll [11,22,33,44] (l0.take k)))) (fun i _=>l0.length - (intOf i).toNat)
  case atStart=>exact⟨0,by omega,rfl,HI⟩
  case round =>
   clear HI
   obtain⟨k,hk,rfl,HW⟩:=hrel
   by_cases hlt:k < l0.length
   ·obtain⟨ad,rfl,hcell⟩:=Kd.at_int (Kd.C_below HR0.out HW.out.B) k (by omega) (by omega)
    have hby:=HBY.out (rd l0 k) (rd_mem hlt)
    obtain⟨x,ex⟩ : ∃ x,x=rd l0 k:=⟨_,rfl⟩
    rw[Int.toNat_natCast] at hcell
    rw[← ex] at hcell hby
    have EX:=X.mk ex
    clear ex
    go_wp2_with (go_at_call 88;refine(eat_inv HW.out x hby.1 hby.2).mono ?_;rintro e w' ⟨rfl,HN,_⟩;replace HN:=X.mk HN)
    go_roundw
    case rel=>exact⟨k + 1,by omega,by go_num,⟨by rw[take_snoc_rd hlt,← EX.out,dgAll_snoc];exact HN.out⟩⟩
    case measure=>simp[intOf];omega
   ·obtain rfl:k=l0.length:=by omega
    rw[List.take_length] at HW
    clear hlt hk
    have HX:=HW
    go_wp2_with (go_at_call 89;refine(xj.calls (l0.length:Int) (yb l0.length) _ rfl).mono ?_;rintro e w1 ⟨v1,rfl,HV,HB1⟩;obtain⟨A1,c1,rfl⟩:=Kd.R_slice HV;replace HW:=X.mk (HW.out.keep (HB1.mono HW.out.lt));replace HV:=X.mk (Kd.R_lower HV (base':=w.heap.size + 2) (DigInv.lt HX.out));clear HB1)
    clear HX
    have HYB:=X.mk (yb_bytes l0.length)
    have hyl:(yb (l0.length:Int)).length=4:=rfl
    replace hyl:=X.mk hyl
    go_loopw [33] (fun i wr=>∃ k:Nat,k≤(yb l0.length).length∧i=.int .i64 k∧X (DigInv w wr (dgAll (dgAll [11,22,33,44] l0) ((yb l0.length).take k))∧Kd.R (Kd.int .u8) 5 wr (w.heap.size + 2) (fun _=>True) (.slice A1 (yb (l0.length:Int)).length c1) (yb l0.length))) (fun i _=>(yb l0.length).length - (intOf i).toNat)
    case atStart=>exact⟨0,by omega,rfl,⟨HW.out,HV.out⟩⟩
    case round =>
     clear HW HV
     obtain⟨k,hk,rfl,HW⟩:=hrel
     by_cases hlt:k < (yb l0.length).length
     ·obtain⟨ad,rfl,hcell⟩:=R_at HW.out.2 k hlt
      have hby:=HYB.out (rd (yb l0.length) k) (rd_mem hlt)
      obtain⟨x,ex⟩ : ∃ x,x=rd (yb l0.length) k:=⟨_,rfl⟩
      rw[← ex] at hcell hby
      have EX:=X.mk ex
      clear ex
      have hyl5:(yb (l0.length:Int)).length≤4:=Nat.le_of_eq hyl.out
      go_wp2_with (go_at_call 88;refine(eat_inv HW.out.1 x hby.1 hby.2).mono ?_;rintro e w' ⟨rfl,HN,HO⟩;replace HN:=X.mk HN;replace HO:=X.mk (R_only HW.out.2 HO (by omega)))
      go_roundw
      case rel=>exact⟨k + 1,by omega,by go_num,⟨by rw[take_snoc_rd hlt,← EX.out,dgAll_snoc];exact HN.out,HO.out⟩⟩
      case measure=>simp[intOf];omega
     ·obtain rfl:k=(yb l0.length).length:=by omega
      rw[List.take_length] at HW
      clear hlt hk
      replace HW:=X.mk HW.out.1
      go_wp2
      go_loopw [41] (fun i wr=>∃ k:Nat,k≤8∧i=.int .i64 k∧X (DigInv w wr (dgAll (dgAll (dgAll [11,22,33,44] l0) (yb l0.length)) (List.replicate k 0)))) (fun i _=>8 - (intOf i).toNat)
      case atStart=>exact⟨0,by omega,rfl,⟨by rw[List.replicate_zero,dgAll_nil];exact HW.out⟩⟩
      case round =>
       clear HW
       obtain⟨k,hk,rfl,HW⟩:=hrel
       by_cases hlt:k < 8
       ·go_wp2_with (go_at_call 88;refine(eat_inv HW.out 0 (by omega) (by omega)).mono ?_;rintro e w' ⟨rfl,HN,HO⟩;clear HO;replace HN:=X.mk HN)
        go_roundw
        case rel=>exact⟨k + 1,by omega,by go_num,⟨by rw[List.replicate_succ',dgAll_snoc];exact HN.out⟩⟩
        case measure=>simp[intOf];omega
       ·obtain rfl:k=8:=by omega
        rw[show((8:Nat):Int)=8 from rfl]
        clear hlt hk
        replace HW:X (DigInv w wr (dgS l0)):=HW
        obtain⟨b0,b1,b2,b3,eb⟩ : ∃ b0 b1 b2 b3,dgS l0=[b0,b1,b2,b3]:=by
         have:=HW.out.len
         match dgS l0,this with
         | [b0,b1,b2,b3],_=>exact⟨b0,b1,b2,b3,rfl⟩
        have hb0:wr.cell? ⟨w.heap.size,0,none⟩ = some (.int .i64 b0):=by rw[I HW.out.A,eb];rfl
        have hb1:wr.cell? ⟨w.heap.size,1,none⟩ = some (.int .i64 b1):=by rw[I HW.out.A,eb];rfl
        have hb2:wr.cell? ⟨w.heap.size,2,none⟩ = some (.int .i64 b2):=by rw[I HW.out.A,eb];rfl
        have hb3:wr.cell? ⟨w.heap.size,3,none⟩ = some (.int .i64 b3):=by rw[I HW.out.A,eb];rfl
        replace eb:=X.mk eb
        go_wp2
        replace HW:=X.mk HW.out.B
        clear hb0 hb1 hb2 hb3 hbig
        go_loopw [47,10] (fun i v W=>∃ (k:Nat) (ys:List Int),k≤4∧i=.int .i64 k∧X (ys=([b0,b1,b2,b3].take k).flatMap yb∧ys.length=4 * k∧Kd.R (Kd.int .u8) 5 W w.heap.size (fun _=>True) v ys∧Below w.heap.size w W)) (fun i _ _=>4 - (intOf i).toNat)
        case atStart=>exact⟨0,[],by omega,rfl,⟨rfl,by simp,Kd.R_nil _ _ _ _ _,HW.out⟩⟩
        case round =>
         clear HW
         obtain⟨k,ys,hk,rfl,HW⟩:=hrel
         obtain⟨A2,c2,rfl⟩:=Kd.R_slice HW.out.2.2.1
         by_cases hlt:k < 4
         ·have hi:=agg4_index b0 b1 b2 b3 k hlt
          obtain⟨q,eq⟩ : ∃ q,q=rd [b0,b1,b2,b3] k:=⟨_,rfl⟩
          rw[← eq] at hi
          replace eq:=X.mk eq
          obtain⟨zs,ez⟩ : ∃ zs,zs=yb q:=⟨_,rfl⟩
          have hz:X (xj.f q=some zs∧zs.length=4):=⟨by rw[ez];rfl,by rw[ez];rfl⟩
          replace ez:=X.mk ez
          go_wp2_with (first|(go_at_call 89;refine(xj.calls q zs _ hz.out.1).mono ?_;rintro e w1 ⟨v1,rfl,HV,HB1⟩;obtain⟨A3,c3,rfl,hc3,hC3⟩:=Kd.R_reads HV;have HW2:=X.mk (⟨Kd.R_below HW.out.2.2.1 HB1,qw HW.out.2.2.2 HB1⟩ : _∧_);replace HV:=X.mk hC3;clear hC3 HB1)|((with_reducible refine gate_builtin (b:=.append) (xs:=#[.tmp 50,.tmp 52]) rfl ?_);at_builtin;refine Kd.R_append_row (Value.int .u8) 0 (w0:=w) w.heap.size rfl (.tmp 50) (.tmp 52) 22 5 (.int .u8 0) 1 rfl Try.underlying22 info5 rfl (by decide) _ ys zs _ _ _ (fun _=>True) rfl rfl (fun _ _=>trivial) HW2.out.1 HV.out HW2.out.2 HW2.out.2.size ?aL ?_;(case aL=>have h1:=HW.out.2.1;have h2:=hz.out.2;omega);intro v1 w3 hr hb hg hat;replace hr:=X.mk hr;replace hb:=X.mk hb;clear hg hat))
          go_roundw
          case rel=>exact⟨k + 1,ys ++ zs,by omega,by go_num,⟨by rw[take_snoc_rd (by simpa using hlt),← eq.out,List.flatMap_append,← HW.out.1,ez.out];simp,by have h1:=HW.out.2.1;have h2:=hz.out.2;rw[List.length_append];omega,hr.out,hb.out⟩⟩
          case measure=>simp[intOf];omega
         ·obtain rfl:k=4:=by omega
          go_wp2
          go_ret
          refine⟨_,rfl,?_,HW.out.2.2.2⟩
          have e1:=HW.out.1
          rw[List.take_of_length_le (by simp)] at e1
          have e2:ys=dg l0:=by rw[e1,dg,eb.out]
          rw[← e2]
          exact HW.out.2.2.1
end Go.Proofs.Ytakocdkcfjkmdaa.Pr
namespace Go.Proofs.Ytakocdkcfjkmdaa.Pr
open Go.RowKit Go.Proofs.YtakocdkcfjkmdaaW.PrintWords Go.Proofs.YtakocdkcfjkmdaaW.PrintLast Go.Proofs.YtakocdkcfjkmdaaW.PrintMore
def anyO {α:Type} (p : α→Option Bool):List α→Option Bool
 | []=>some false
 | x :: xs=>(p x).bind fun b=>if b=true then some true else anyO p xs
theorem anyO_mono {α:Type} {p q : α→Option Bool} (h:∀ x,LeO (p x) (q x)):∀ l:List α,LeO (anyO p l) (anyO q l)
 | []=>LeO.refl _
 | x :: xs=>LeO.bind (h x) (fun _=>LeO.ite (LeO.refl _) (anyO_mono h xs))
theorem anyO_drop {α:Type} {p : α→Option Bool} {l:List α} {k:Nat} {r:Bool} (hk:k < l.length) (h:anyO p (l.drop k)=some r):∃ b,p l[k]=some b∧(b=true→r=true)∧(b=false→anyO p (l.drop (k + 1))=some r):=by
 rw[List.drop_eq_getElem_cons hk] at h
 obtain⟨b,hb,h2⟩:=jq8.1 h
 refine⟨b,hb,fun e=>?_,fun e=>?_⟩
 ·subst e;simpa using h2.symm
 ·subst e;simpa using h2
end Go.Proofs.Ytakocdkcfjkmdaa.Pr
namespace Go.Proofs.Ytakocdkcfjkmdaa.Pr
open Go.RowKit Go.Proofs.YtakocdkcfjkmdaaW.PrintWords Go.Proofs.YtakocdkcfjkmdaaW.PrintLast Go.Proofs.YtakocdkcfjkmdaaW.PrintMore
set_option linter.unusedVariables false
set_option linter.unusedSimpArgs false
set_option maxHeartbeats 1000000 in
theorem indexInt_calls (fn:Nat) (p:Int→Option Bool) (eg:Enters Try.prog fn) (hp:∀ (x:Int) (b:Bool) (W:World),p x=some b→Calls Try.prog fn #[.int .i64 x] W fun e w'=>e=.returned (.bool b)∧Drawn0 W w')
  (A0:Option Addr) (c0:Nat) (l0:List Int) (r:Bool) (w:World) (hr0:Kd.C (Kd.int .i64) w A0 l0.length l0) (h:anyO p l0=some r) :
  Calls Try.prog 79 #[.slice A0 l0.length c0,.func (.func fn) #[] #[]] w fun e w'=>∃ i:Int,e=.returned (.int .i64 i)∧decide (0≤i)=r∧Drawn0 w w':=by
 have hmax:=Kd.C_max hr0
 have HR0:=X.mk hr0
 have HM:=X.mk hmax
 have HP:=X.mk hp
 have HH:=X.mk h
 clear hr0 hmax hp h
 have e1:∀ (args:Array Value) (w:World),(callFunc fn args).run Try.prog w=.ok (.enter fn args) w:=eg
 go_enter Try.func79,Try.ntmps79
 go_wp2
 go_loopw [5,8] (fun v5 i W=>∃ k:Nat,k≤l0.length∧i=.int .i64 k∧X (anyO p (l0.drop k)=some r∧Drawn0 w W)) (fun _ i _=>l0.length - (intOf i).toNat)
 case atStart=>exact⟨0,by omega,rfl,⟨HH.out,Drawn0.refl _⟩⟩
 case round =>
  obtain⟨k,hk,rfl,HW⟩:=hrel
  have hmax:=HM.out
  by_cases hlt:k < l0.length
  ·obtain⟨ad,rfl,hcell⟩:=Kd.at_int HR0.out k (by omega) (by omega)
   rw[Int.toNat_natCast] at hcell
   obtain⟨b,hb,h1,h2⟩:=anyO_drop hlt HW.out.1
   have hcell2:wr.cell? (ad.add k)=some (.int .i64 (l0[k])):=by
    obtain⟨⟨nd,e⟩⟩:=HW.out.2
    rw[e]
    refine hcell.trans ?_
    simp[rd,rdOf,List.getD_eq_getElem?_getD,List.getElem?_eq_getElem hlt]
   clear hcell
   have HC:=X.mk (fun W=>HP.out l0[k] b W hb)
   clear hb
   obtain⟨x,hx⟩ : ∃ x,x=l0[k]:=⟨_,rfl⟩
   rw[← hx] at hcell2 HC
   clear hx
   cases b with
   | false =>
    have HB:=X.mk (h2 rfl)
    clear h1 h2
    go_wp2_with (go_at_fn fn;refine(HC.out _).mono ?_;rintro e w' ⟨rfl,⟨⟨nd,rfl⟩⟩⟩)
    go_roundw
    case rel=>exact⟨k + 1,by omega,by go_num,⟨HB.out,by repeat(first|exact HW.out.2|apply Drawn0.step)⟩⟩
    case measure=>simp[intOf];omega
   | true =>
    have HB:=X.mk (h1 rfl)
    clear h1 h2
    go_wp2_with (go_at_fn fn;refine(HC.out _).mono ?_;rintro e w' ⟨rfl,⟨⟨nd,rfl⟩⟩⟩)
    go_ret
    exact⟨k,rfl,by rw[HB.out];exact decide_eq_true (by omega),by repeat(first|exact HW.out.2|apply Drawn0.step)⟩
  ·obtain rfl:k=l0.length:=by omega
   rw[List.drop_length] at HW
   go_wp2
   go_ret
   exact⟨-1,rfl,by have:=Option.some.inj HW.out.1;rw[← this];rfl,HW.out.2⟩
theorem containsInt_calls (fn:Nat) (p:Int→Option Bool) (eg:Enters Try.prog fn) (hp:∀ (x:Int) (b:Bool) (W:World),p x=some b→Calls Try.prog fn #[.int .i64 x] W fun e w'=>e=.returned (.bool b)∧Drawn0 W w')
  (A0:Option Addr) (c0:Nat) (l0:List Int) (r:Bool) (w:World) (hr0:Kd.C (Kd.int .i64) w A0 l0.length l0) (h:anyO p l0=some r) :
  Calls Try.prog 51 #[.slice A0 l0.length c0,.func (.func fn) #[] #[]] w fun e w'=>e=.returned (.bool r)∧Drawn0 w w':=by
 have C1:=X.mk (fun W (hW:Kd.C (Kd.int .i64) W A0 l0.length l0)=>indexInt_calls fn p eg hp A0 c0 l0 r W hW h)
 have HR0:=X.mk hr0
 clear hr0 hp h eg
 go_enter Try.func51,Try.ntmps51
 go_wp2_with (go_at_call 79;refine(C1.out _ HR0.out).mono ?_;rintro e w' ⟨i,rfl,hi,⟨⟨nd,rfl⟩⟩⟩)
 go_ret
 exact⟨by simp only[← hi];rfl,⟨⟨_,rfl⟩⟩⟩
end Go.Proofs.Ytakocdkcfjkmdaa.Pr
namespace Go.Proofs.Ytakocdkcfjkmdaa.Pr
open Go.RowKit Go.Proofs.YtakocdkcfjkmdaaW.PrintWords Go.Proofs.YtakocdkcfjkmdaaW.PrintLast Go.Proofs.YtakocdkcfjkmdaaW.PrintMore
set_option linter.unusedVariables false
set_option linter.unusedSimpArgs false
set_option maxHeartbeats 1000000 in
theorem indexStr_calls (fn:Nat) (p:ByteArray→Option Bool) (eg:Enters Try.prog fn) (hp:∀ (x:ByteArray) (b:Bool) (W:World),p x=some b→Calls Try.prog fn #[.string x] W fun e w'=>e=.returned (.bool b)∧Drawn0 W w')
  (A0:Option Addr) (c0:Nat) (l0:List ByteArray) (r:Bool) (w:World) (hr0:Kd.C Kd.string w A0 l0.length l0) (h:anyO p l0=some r) :
  Calls Try.prog 78 #[.slice A0 l0.length c0,.func (.func fn) #[] #[]] w fun e w'=>∃ i:Int,e=.returned (.int .i64 i)∧decide (0≤i)=r∧Drawn0 w w':=by
 have hmax:=Kd.C_max hr0
 have HR0:=X.mk hr0
 have HM:=X.mk hmax
 have HP:=X.mk hp
 have HH:=X.mk h
 clear hr0 hmax hp h
 have e1:∀ (args:Array Value) (w:World),(callFunc fn args).run Try.prog w=.ok (.enter fn args) w:=eg
 go_enter Try.func78,Try.ntmps78
 go_wp2
 go_loopw [5,8] (fun v5 i W=>∃ k:Nat,k≤l0.length∧i=.int .i64 k∧X (anyO p (l0.drop k)=some r∧Drawn0 w W)) (fun _ i _=>l0.length - (intOf i).toNat)
 case atStart=>exact⟨0,by omega,rfl,⟨HH.out,Drawn0.refl _⟩⟩
 case round =>
  obtain⟨k,hk,rfl,HW⟩:=hrel
  have hmax:=HM.out
  by_cases hlt:k < l0.length
  ·obtain⟨ad,rfl,hcell⟩:=Kd.at_string HR0.out k (by omega) (by omega)
   rw[Int.toNat_natCast] at hcell
   obtain⟨b,hb,h1,h2⟩:=anyO_drop hlt HW.out.1
   have hcell2:wr.cell? (ad.add k)=some (.string (l0[k])):=by
    obtain⟨⟨nd,e⟩⟩:=HW.out.2
    rw[e]
    refine hcell.trans ?_
    simp[rd,rdOf,List.getD_eq_getElem?_getD,List.getElem?_eq_getElem hlt]
   clear hcell
   have HC:=X.mk (fun W=>HP.out l0[k] b W hb)
   clear hb
   obtain⟨x,hx⟩ : ∃ x,x=l0[k]:=⟨_,rfl⟩
   rw[← hx] at hcell2 HC
   clear hx
   cases b with
   | false =>
    have HB:=X.mk (h2 rfl)
    clear h1 h2
    go_wp2_with (go_at_fn fn;refine(HC.out _).mono ?_;rintro e w' ⟨rfl,⟨⟨nd,rfl⟩⟩⟩)
    go_roundw
    case rel=>exact⟨k + 1,by omega,by go_num,⟨HB.out,by repeat(first|exact HW.out.2|apply Drawn0.step)⟩⟩
    case measure=>simp[intOf];omega
   | true =>
    have HB:=X.mk (h1 rfl)
    clear h1 h2
    go_wp2_with (go_at_fn fn;refine(HC.out _).mono ?_;rintro e w' ⟨rfl,⟨⟨nd,rfl⟩⟩⟩)
    go_ret
    exact⟨k,rfl,by rw[HB.out];exact decide_eq_true (by omega),by repeat(first|exact HW.out.2|apply Drawn0.step)⟩
  ·obtain rfl:k=l0.length:=by omega
   rw[List.drop_length] at HW
   go_wp2
   go_ret
   exact⟨-1,rfl,by have:=Option.some.inj HW.out.1;rw[← this];rfl,HW.out.2⟩
theorem containsStr_calls (fn:Nat) (p:ByteArray→Option Bool) (eg:Enters Try.prog fn) (hp:∀ (x:ByteArray) (b:Bool) (W:World),p x=some b→Calls Try.prog fn #[.string x] W fun e w'=>e=.returned (.bool b)∧Drawn0 W w')
  (A0:Option Addr) (c0:Nat) (l0:List ByteArray) (r:Bool) (w:World) (hr0:Kd.C Kd.string w A0 l0.length l0) (h:anyO p l0=some r) :
  Calls Try.prog 48 #[.slice A0 l0.length c0,.func (.func fn) #[] #[]] w fun e w'=>e=.returned (.bool r)∧Drawn0 w w':=by
 have C1:=X.mk (fun W (hW:Kd.C Kd.string W A0 l0.length l0)=>indexStr_calls fn p eg hp A0 c0 l0 r W hW h)
 have HR0:=X.mk hr0
 clear hr0 hp h eg
 go_enter Try.func48,Try.ntmps48
 go_wp2_with (go_at_call 78;refine(C1.out _ HR0.out).mono ?_;rintro e w' ⟨i,rfl,hi,⟨⟨nd,rfl⟩⟩⟩)
 go_ret
 exact⟨by simp only[← hi];rfl,⟨⟨_,rfl⟩⟩⟩
end Go.Proofs.Ytakocdkcfjkmdaa.Pr
namespace Go.Proofs.Ytakocdkcfjkmdaa.Pr
open Go.RowKit Go.Proofs.YtakocdkcfjkmdaaW.PrintWords Go.Proofs.YtakocdkcfjkmdaaW.PrintLast Go.Proofs.YtakocdkcfjkmdaaW.PrintMore
attribute [local go_sem] max2_int min2_int max_two min_two max_three min_three max_four min_four
set_option linter.unusedVariables false
set_option linter.unusedSimpArgs false
mutual
def qqq.j0:Nat→ByteArray→Bool→Option (Bool)
 | 0,_,_=>none
 | k + 1,x0,x17=>if x17=true then(some false) else(qqq.l0 k x0 (x0.size:Int) 0)
def qqq.l0:Nat→ByteArray→Int→Int→Option (Bool)
 | 0,_,_,_=>none
 | k + 1,x0,x19,x20=>if x20 < x19 then(if 0≤x20 then(if x20 < (x0.size:Int) then(if (bt x0 x20) < 32 then(some false) else(if (bt x0 x20) > 126 then(some false) else(qqq.l0 k x0 x19 (wrap64 (x20 + 1))))) else(none)) else(none)) else(some true)
end
def qqq.f (k:Nat) (a0:ByteArray) (a1:Int) (a2:Int):Option (Bool):=if (a0.size:Int) < a1 then(qqq.j0 k a0 true) else(qqq.j0 k a0 (decide ((a0.size:Int) > a2)))
theorem qqq.mono_l:∀ k,(∀ y0 y1,LeO (qqq.j0 k y0 y1) (qqq.j0 (k + 1) y0 y1))∧(∀ y0 y1 y2,LeO (qqq.l0 k y0 y1 y2) (qqq.l0 (k + 1) y0 y1 y2))
 | 0=>⟨fun _ _ r h=>by simp[qqq.j0] at h,fun _ _ _ r h=>by simp[qqq.l0] at h⟩
 | k + 1=>by
  obtain⟨ih0,ih1⟩:=qqq.mono_l k
  refine⟨?_,?_⟩
  ·intro y0 y1
   unfold qqq.j0
   repeat' first
   | (with_reducible exact ih0 _ _)
   | (with_reducible exact ih1 _ _ _)
   | (with_reducible exact LeO.refl _)
   | (with_reducible exact LeO.none _)
   | (with_reducible refine LeO.ite ?_ ?_)
   | (with_reducible refine LeO.bind ?_ (fun _=>?_))
   | exact ih0 _ _
   | exact ih1 _ _ _
   | exact LeO.none _
   | refine LeO.ite ?_ ?_
   | refine LeO.bind ?_ (fun _=>?_)
  ·intro y0 y1 y2
   unfold qqq.l0
   repeat' first
   | (with_reducible exact ih0 _ _)
   | (with_reducible exact ih1 _ _ _)
   | (with_reducible exact LeO.refl _)
   | (with_reducible exact LeO.none _)
   | (with_reducible refine LeO.ite ?_ ?_)
   | (with_reducible refine LeO.bind ?_ (fun _=>?_))
   | exact ih0 _ _
   | exact ih1 _ _ _
   | exact LeO.none _
   | refine LeO.ite ?_ ?_
   | refine LeO.bind ?_ (fun _=>?_)
theorem qqq.mono:∀ a0 a1 a2 k,LeO (qqq.f k a0 a1 a2) (qqq.f (k + 1) a0 a1 a2):=by
 intro a0 a1 a2 k
 obtain⟨ih0,ih1⟩:=qqq.mono_l k
 unfold qqq.f
 repeat' first
   | (with_reducible exact ih0 _ _)
   | (with_reducible exact ih1 _ _ _)
   | (with_reducible exact LeO.refl _)
   | (with_reducible exact LeO.none _)
   | (with_reducible refine LeO.ite ?_ ?_)
   | (with_reducible refine LeO.bind ?_ (fun _=>?_))
   | exact ih0 _ _
   | exact ih1 _ _ _
   | exact LeO.none _
   | refine LeO.ite ?_ ?_
   | refine LeO.bind ?_ (fun _=>?_)
theorem qqq.calls (k:Nat) (a0:ByteArray) (a1:Int) (a2:Int) (r:Bool) (w:World) (h:qqq.f k a0 a1 a2=some r) :
  Calls Try.prog 50 #[.string a0,.int .i64 a1,.int .i64 a2] w fun e w'=>e=.returned (.bool r)∧Drawn0 w w':=by
 unfold qqq.f at h
 have H:=h
 clear h
 have HC4:=X.mk H
 clear H
 go_enter Try.func50,Try.ntmps50
 go_upto_region 1 with (fail)
 go_cut [17] (fun v17 wc=>∃ (kq:Nat) (x17_3:Bool),v17=.bool x17_3∧X (qqq.j0 kq a0 x17_3=some r)∧X (kq≤k)∧Drawn0 w wc)
 case first =>
  have H:=HC4.out
  clear HC4
  by_cases c5:(a0.size:Int) < a1
  ·rw[if_pos c5] at H
   have c5b0:decide ((a0.size:Int) < a1)=true:=decide_eq_true c5
   clear c5
   (first|rw[c5b0]|(simp only[i64_w,i32_w];rw[c5b0])|skip)
   have H':=X.mk H
   clear H
   go_wp2
   go_meet
   case rel=>exact⟨_,(true),(by first|rfl|(simp;done)|(simp[*];done)),H',⟨by first|omega|exact Nat.le_refl _⟩,by repeat(first|exact Drawn0.refl _|apply Drawn0.step)⟩
  ·rw[if_neg c5] at H
   have c5b0:decide ((a0.size:Int) < a1)=false:=decide_eq_false c5
   clear c5
   (first|rw[c5b0]|(simp only[i64_w,i32_w];rw[c5b0])|skip)
   have H':=X.mk H
   clear H
   go_wp2
   go_meet
   case rel=>exact⟨_,(decide ((a0.size:Int) > a2)),(by first|rfl|(simp;done)|(simp[*];done)),H',⟨by first|omega|exact Nat.le_refl _⟩,by repeat(first|exact Drawn0.refl _|apply Drawn0.step)⟩
 case rest =>
  clear HC4
  try clear p2
  try clear c5
  try clear c5b0
  obtain⟨kq,x17_3,rfl,HA,HJ3,⟨mc3,rfl⟩⟩:=hcut
  cases kq with
  | zero=>exact absurd HA.out (by simp[qqq.j0])
  | succ kj3 =>
   have H:=HA.out
   clear HA
   simp only[qqq.j0] at H
   by_cases c6:x17_3=true
   ·subst c6
    have H1:(some false)=some r:=by rw[if_pos rfl] at H;exact H
    clear H
    have H:=H1
    clear H1
    obtain rfl:=Option.some.inj H
    go_wp2
    go_ret
    exact⟨by first|rfl|(simp;done)|(simp[*];done),by repeat(first|exact Drawn0.refl _|apply Drawn0.step)⟩
   ·replace c6:=jq9.mpr c6
    subst c6
    have H1:(qqq.l0 kj3 a0 (a0.size:Int) 0)=some r:=by rw[if_neg (show ¬ (false=true) by decide)] at H;exact H
    clear H
    have H:=H1
    clear H1
    have H':=X.mk H
    clear H
    go_wp2
    go_loopg [20] kj3 (fun kq v20 w'=>∃ (x20_2:Int),v20=.int .i64 x20_2∧X (qqq.l0 kq a0 (a0.size:Int) x20_2=some r)∧X (kq≤kj3)∧Drawn0 w w')
    case atStart=>exact⟨(0),(by first|rfl|(simp;done)|(simp[*];done)),H',⟨Nat.le_refl _⟩,by repeat(first|exact Drawn0.refl _|apply Drawn0.step)⟩
    case round =>
     clear H'
     try clear p2
     try clear c3
     try clear c5
     try clear c5b0
     try clear c6
     try clear p2
     obtain⟨x20_2,rfl,HA,HK2,⟨m2,rfl⟩⟩:=hrel
     cases gk with
     | zero=>exact absurd HA.out (by simp[qqq.l0])
     | succ k2 =>
      have H:=HA.out
      clear HA
      simp only[qqq.l0] at H
      by_cases c7:x20_2 < (a0.size:Int)
      ·rw[if_pos c7] at H
       have c7b0:decide (x20_2 < (a0.size:Int))=true:=decide_eq_true c7
       clear c7
       by_cases c8 : 0≤x20_2
       ·rw[if_pos c8] at H
        have c8b0:decide (0≤x20_2)=true:=decide_eq_true c8
        clear c8
        by_cases c9:x20_2 < (a0.size:Int)
        ·rw[if_pos c9] at H
         have c9b0:decide (x20_2 < (a0.size:Int))=true:=decide_eq_true c9
         clear c9
         by_cases c11:(bt a0 x20_2) < 32
         ·rw[if_pos c11] at H
          have c11b0:decide ((bt a0 x20_2) < 32)=true:=decide_eq_true c11
          clear c11
          obtain rfl:=Option.some.inj H
          have p10 : 0≤(x20_2:Int):=of_decide_eq_true (by assumption)
          have q10:x20_2 < (a0.size:Int):=of_decide_eq_true (by assumption)
          have hx10:=bt_at a0 x20_2
          replace p10:=eq_true p10
          replace q10:=eq_true q10
          go_wp2
          go_ret
          exact⟨by first|rfl|(simp;done)|(simp[*];done),by repeat(first|exact Drawn0.refl _|apply Drawn0.step)⟩
         ·rw[if_neg c11] at H
          have c11b0:decide ((bt a0 x20_2) < 32)=false:=decide_eq_false c11
          clear c11
          by_cases c13:(bt a0 x20_2) > 126
          ·rw[if_pos c13] at H
           have c13b0:decide (126 < (bt a0 x20_2))=true:=decide_eq_true c13
           clear c13
           obtain rfl:=Option.some.inj H
           have p10 : 0≤(x20_2:Int):=of_decide_eq_true (by assumption)
           have q10:x20_2 < (a0.size:Int):=of_decide_eq_true (by assumption)
           have hx10:=bt_at a0 x20_2
           replace p10:=eq_true p10
           replace q10:=eq_true q10
           have p12 : 0≤(x20_2:Int):=of_decide_eq_true (by assumption)
           have q12:x20_2 < (a0.size:Int):=of_decide_eq_true (by assumption)
           have hx12:=bt_at a0 x20_2
           replace p12:=eq_true p12
           replace q12:=eq_true q12
           go_wp2
           go_ret
           exact⟨by first|rfl|(simp;done)|(simp[*];done),by repeat(first|exact Drawn0.refl _|apply Drawn0.step)⟩
          ·rw[if_neg c13] at H
           have c13b0:decide (126 < (bt a0 x20_2))=false:=decide_eq_false c13
           clear c13
           have H':=X.mk H
           clear H
           have p10 : 0≤(x20_2:Int):=of_decide_eq_true (by assumption)
           have q10:x20_2 < (a0.size:Int):=of_decide_eq_true (by assumption)
           have hx10:=bt_at a0 x20_2
           replace p10:=eq_true p10
           replace q10:=eq_true q10
           have p12 : 0≤(x20_2:Int):=of_decide_eq_true (by assumption)
           have q12:x20_2 < (a0.size:Int):=of_decide_eq_true (by assumption)
           have hx12:=bt_at a0 x20_2
           replace p12:=eq_true p12
           replace q12:=eq_true q12
           go_wp2
           go_roundg k2
           case measure=>have:=HJ3.out;have:=HK2.out;omega
           case rel=>exact⟨(wrap64 (x20_2 + 1)),(by first|rfl|(simp;done)|(simp[*];done)),H',⟨by have:=HJ3.out;have:=HK2.out;omega⟩,by repeat(first|exact Drawn0.refl _|apply Drawn0.step)⟩
        ·rw[if_neg c9] at H
         exact absurd H (by simp)
       ·rw[if_neg c8] at H
        exact absurd H (by simp)
      ·rw[if_neg c7] at H
       have c7b0:decide (x20_2 < (a0.size:Int))=false:=decide_eq_false c7
       clear c7
       obtain rfl:=Option.some.inj H
       go_wp2
       go_ret
       exact⟨by first|rfl|(simp;done)|(simp[*];done),by repeat(first|exact Drawn0.refl _|apply Drawn0.step)⟩
end Go.Proofs.Ytakocdkcfjkmdaa.Pr
namespace Go.Proofs.Ytakocdkcfjkmdaa.Pr
open Go.RowKit Go.Proofs.YtakocdkcfjkmdaaW.PrintWords Go.Proofs.YtakocdkcfjkmdaaW.PrintLast Go.Proofs.YtakocdkcfjkmdaaW.PrintMore
attribute [local go_sem] max2_int min2_int max_two min_two max_three min_three max_four min_four
set_option linter.unusedVariables false
set_option linter.unusedSimpArgs false
def wv.f (k:Nat) (a0:ByteArray):Option (Bool):=(qqq.f k a0 1 200).bind fun t101=>(some (!t101))
theorem wv.mono:∀ a0 k,LeO (wv.f k a0) (wv.f (k + 1) a0):=by
 intro a0 k
 unfold wv.f
 repeat' first
   | (with_reducible exact qqq.mono _ _ _ _)
   | (with_reducible exact LeO.refl _)
   | (with_reducible exact LeO.none _)
   | (with_reducible refine LeO.ite ?_ ?_)
   | (with_reducible refine LeO.bind ?_ (fun _=>?_))
   | exact qqq.mono _ _ _ _
   | exact LeO.none _
   | refine LeO.ite ?_ ?_
   | refine LeO.bind ?_ (fun _=>?_)
theorem wv.calls (k:Nat) (a0:ByteArray) (r:Bool) (w:World) (h:wv.f k a0=some r) :
  Calls Try.prog 49 #[.string a0] w fun e w'=>e=.returned (.bool r)∧Drawn0 w w':=by
 have H:((qqq.f k a0 1 200).bind fun t101=>(some (!t101)))=some r:=h
 clear h
 replace H:=jq8.mp H
 obtain⟨t101,A20,H⟩:=H
 replace H:(some (!t101))=some r:=H
 have A2:=X.mk A20
 clear A20
 obtain rfl:=Option.some.inj H
 go_enter Try.func49,Try.ntmps49
 go_wp2_with (first|((with_reducible refine zw (f:=50) rfl ?_);refine goesL_ (some 4) rfl rfl Try.func50 (by kernel_rfl) rfl #[.string a0,.int .i64 1,.int .i64 200] rfl (by(try simp only[jq0,jq1,jq2]);first|done|rfl|(simp only[jq3,jq4];rfl)) ?_;(with_reducible refine(qqq.calls k a0 1 200 t101 _ A2.out).mono ?_);rintro e w' ⟨rfl,⟨nd,rfl⟩⟩;refine⟨_,rfl,?_⟩))
 go_ret
 exact⟨by first|rfl|(simp;done)|(simp[*];done),by repeat(first|exact Drawn0.refl _|apply Drawn0.step)⟩
end Go.Proofs.Ytakocdkcfjkmdaa.Pr
namespace Go.Proofs.Ytakocdkcfjkmdaa.Pr
open Go.RowKit Go.Proofs.YtakocdkcfjkmdaaW.PrintWords Go.Proofs.YtakocdkcfjkmdaaW.PrintLast Go.Proofs.YtakocdkcfjkmdaaW.PrintMore
attribute [local go_sem] max2_int min2_int max_two min_two max_three min_three max_four min_four
set_option linter.unusedVariables false
set_option linter.unusedSimpArgs false
def ww.f (a0:Int):Option (Bool):=if a0 < 1 then(some true) else(some (decide (a0 > 4)))
theorem ww.calls (a0:Int) (r:Bool) (w:World) (h:ww.f a0=some r) :
  Calls Try.prog 52 #[.int .i64 a0] w fun e w'=>e=.returned (.bool r)∧Drawn0 w w':=by
 have H:(if a0 < 1 then(some true) else(some (decide (a0 > 4))))=some r:=h
 clear h
 by_cases c2:a0 < 1
 ·rw[if_pos c2] at H
  have c2b0:decide (a0 < 1)=true:=decide_eq_true c2
  clear c2
  obtain rfl:=Option.some.inj H
  go_enter Try.func52,Try.ntmps52
  go_wp2
  go_ret
  exact⟨by first|rfl|(simp;done)|(simp[*];done),by repeat(first|exact Drawn0.refl _|apply Drawn0.step)⟩
 ·rw[if_neg c2] at H
  have c2b0:decide (a0 < 1)=false:=decide_eq_false c2
  clear c2
  obtain rfl:=Option.some.inj H
  go_enter Try.func52,Try.ntmps52
  go_wp2
  go_ret
  exact⟨by first|rfl|(simp;done)|(simp[*];done),by repeat(first|exact Drawn0.refl _|apply Drawn0.step)⟩
end Go.Proofs.Ytakocdkcfjkmdaa.Pr
namespace Go.Proofs.Ytakocdkcfjkmdaa.Pr
open Go.RowKit Go.Proofs.YtakocdkcfjkmdaaW.PrintWords Go.Proofs.YtakocdkcfjkmdaaW.PrintLast Go.Proofs.YtakocdkcfjkmdaaW.PrintMore
attribute [local go_sem] max2_int min2_int max_two min_two max_three min_three max_four min_four
set_option linter.unusedVariables false
set_option linter.unusedSimpArgs false
def xx.f (a0:Int):Option (Bool):=if a0 ≥ 97 then(if a0≤122 then(some true) else(if a0 ≥ 65 then(some (decide (a0≤90))) else(some false))) else(if a0 ≥ 65 then(some (decide (a0≤90))) else(some false))
theorem xx.calls (a0:Int) (r:Bool) (w:World) (h:xx.f a0=some r) :
  Calls Try.prog 90 #[.int .u8 a0] w fun e w'=>e=.returned (.bool r)∧Drawn0 w w':=by
 unfold xx.f at h
 have H:=h
 clear h
 by_cases c2:a0 ≥ 97
 ·rw[if_pos c2] at H
  have c2b0:decide (97≤a0)=true:=decide_eq_true c2
  clear c2
  by_cases c3:a0≤122
  ·rw[if_pos c3] at H
   have c3b0:decide (a0≤122)=true:=decide_eq_true c3
   clear c3
   obtain rfl:=Option.some.inj H
   go_enter Try.func90,Try.ntmps90
   go_wp2
   go_ret
   exact⟨by first|rfl|(simp;done)|(simp[*];done),by repeat(first|exact Drawn0.refl _|apply Drawn0.step)⟩
  ·rw[if_neg c3] at H
   have c3b0:decide (a0≤122)=false:=decide_eq_false c3
   clear c3
   by_cases c4:a0 ≥ 65
   ·rw[if_pos c4] at H
    have c4b0:decide (65≤a0)=true:=decide_eq_true c4
    clear c4
    obtain rfl:=Option.some.inj H
    go_enter Try.func90,Try.ntmps90
    go_wp2
    go_ret
    exact⟨by first|rfl|(simp;done)|(simp[*];done),by repeat(first|exact Drawn0.refl _|apply Drawn0.step)⟩
   ·rw[if_neg c4] at H
    have c4b0:decide (65≤a0)=false:=decide_eq_false c4
    clear c4
    obtain rfl:=Option.some.inj H
    go_enter Try.func90,Try.ntmps90
    go_wp2
    go_ret
    exact⟨by first|rfl|(simp;done)|(simp[*];done),by repeat(first|exact Drawn0.refl _|apply Drawn0.step)⟩
 ·rw[if_neg c2] at H
  have c2b0:decide (97≤a0)=false:=decide_eq_false c2
  clear c2
  by_cases c5:a0 ≥ 65
  ·rw[if_pos c5] at H
   have c5b0:decide (65≤a0)=true:=decide_eq_true c5
   clear c5
   obtain rfl:=Option.some.inj H
   go_enter Try.func90,Try.ntmps90
   go_wp2
   go_ret
   exact⟨by first|rfl|(simp;done)|(simp[*];done),by repeat(first|exact Drawn0.refl _|apply Drawn0.step)⟩
  ·rw[if_neg c5] at H
   have c5b0:decide (65≤a0)=false:=decide_eq_false c5
   clear c5
   obtain rfl:=Option.some.inj H
   go_enter Try.func90,Try.ntmps90
   go_wp2
   go_ret
   exact⟨by first|rfl|(simp;done)|(simp[*];done),by repeat(first|exact Drawn0.refl _|apply Drawn0.step)⟩
end Go.Proofs.Ytakocdkcfjkmdaa.Pr
namespace Go.Proofs.Ytakocdkcfjkmdaa.Pr
open Go.RowKit Go.Proofs.YtakocdkcfjkmdaaW.PrintWords Go.Proofs.YtakocdkcfjkmdaaW.PrintLast Go.Proofs.YtakocdkcfjkmdaaW.PrintMore
attribute [local go_sem] max2_int min2_int max_two min_two max_three min_three max_four min_four
set_option linter.unusedVariables false
set_option linter.unusedSimpArgs false
def xk.f (a0:Int):Option (Bool):=if a0 ≥ 48 then(some (decide (a0≤57))) else(some false)
theorem xk.calls (a0:Int) (r:Bool) (w:World) (h:xk.f a0=some r) :
  Calls Try.prog 91 #[.int .u8 a0] w fun e w'=>e=.returned (.bool r)∧Drawn0 w w':=by
 have H:(if a0 ≥ 48 then(some (decide (a0≤57))) else(some false))=some r:=h
 clear h
 by_cases c2:a0 ≥ 48
 ·rw[if_pos c2] at H
  have c2b0:decide (48≤a0)=true:=decide_eq_true c2
  clear c2
  obtain rfl:=Option.some.inj H
  go_enter Try.func91,Try.ntmps91
  go_wp2
  go_ret
  exact⟨by first|rfl|(simp;done)|(simp[*];done),by repeat(first|exact Drawn0.refl _|apply Drawn0.step)⟩
 ·rw[if_neg c2] at H
  have c2b0:decide (48≤a0)=false:=decide_eq_false c2
  clear c2
  obtain rfl:=Option.some.inj H
  go_enter Try.func91,Try.ntmps91
  go_wp2
  go_ret
  exact⟨by first|rfl|(simp;done)|(simp[*];done),by repeat(first|exact Drawn0.refl _|apply Drawn0.step)⟩
end Go.Proofs.Ytakocdkcfjkmdaa.Pr
namespace Go.Proofs.Ytakocdkcfjkmdaa.Pr
open Go.RowKit Go.Proofs.YtakocdkcfjkmdaaW.PrintWords Go.Proofs.YtakocdkcfjkmdaaW.PrintLast Go.Proofs.YtakocdkcfjkmdaaW.PrintMore
attribute [local go_sem] max2_int min2_int max_two min_two max_three min_three max_four min_four
set_option linter.unusedVariables false
set_option linter.unusedSimpArgs false
def qqj.f (a0:Int):Option (Bool):=(xx.f a0).bind fun t101=>(if t101=true then(some true) else((xk.f a0).bind fun t102=>(if t102=true then(some true) else(some (a0 == 95)))))
theorem qqj.calls (a0:Int) (r:Bool) (w:World) (h:qqj.f a0=some r) :
  Calls Try.prog 70 #[.int .u8 a0] w fun e w'=>e=.returned (.bool r)∧Drawn0 w w':=by
 unfold qqj.f at h
 have H:=h
 clear h
 replace H:=jq8.mp H
 obtain⟨t101,A20,H⟩:=H
 try dsimp only at H
 have A2:=X.mk A20
 clear A20
 by_cases c3:t101=true
 ·subst c3
  have H1:(some true)=some r:=by rw[if_pos rfl] at H;exact H
  clear H
  have H:=H1
  clear H1
  obtain rfl:=Option.some.inj H
  go_enter Try.func70,Try.ntmps70
  go_wp2_with (first|((with_reducible refine zw (f:=90) rfl ?_);refine goesL_ (some 4) rfl rfl Try.func90 (by kernel_rfl) rfl #[.int .u8 a0] rfl (by(try simp only[jq0,jq1,jq2]);first|done|rfl|(simp only[jq3,jq4];rfl)) ?_;(with_reducible refine(xx.calls a0 true _ A2.out).mono ?_);rintro e w' ⟨rfl,⟨nd,rfl⟩⟩;refine⟨_,rfl,?_⟩))
  go_ret
  exact⟨by first|rfl|(simp;done)|(simp[*];done),by repeat(first|exact Drawn0.refl _|apply Drawn0.step)⟩
 ·replace c3:=jq9.mpr c3
  subst c3
  have H1:((xk.f a0).bind fun t102=>(if t102=true then(some true) else(some (a0 == 95))))=some r:=by rw[if_neg (show ¬ (false=true) by decide)] at H;exact H
  clear H
  have H:=H1
  clear H1
  replace H:=jq8.mp H
  obtain⟨t102,A40,H⟩:=H
  try dsimp only at H
  have A4:=X.mk A40
  clear A40
  by_cases c5:t102=true
  ·subst c5
   have H1:(some true)=some r:=by rw[if_pos rfl] at H;exact H
   clear H
   have H:=H1
   clear H1
   obtain rfl:=Option.some.inj H
   go_enter Try.func70,Try.ntmps70
   go_wp2_with (first|((with_reducible refine zw (f:=90) rfl ?_);refine goesL_ (some 4) rfl rfl Try.func90 (by kernel_rfl) rfl #[.int .u8 a0] rfl (by(try simp only[jq0,jq1,jq2]);first|done|rfl|(simp only[jq3,jq4];rfl)) ?_;(with_reducible refine(xx.calls a0 false _ A2.out).mono ?_);rintro e w' ⟨rfl,⟨nd,rfl⟩⟩;refine⟨_,rfl,?_⟩)|(go_at_call 91;(with_reducible refine(xk.calls a0 true _ A4.out).mono ?_);rintro e w' ⟨rfl,⟨nd,rfl⟩⟩))
   go_ret
   exact⟨by first|rfl|(simp;done)|(simp[*];done),by repeat(first|exact Drawn0.refl _|apply Drawn0.step)⟩
  ·replace c5:=jq9.mpr c5
   subst c5
   have H1:(some (a0 == 95))=some r:=by rw[if_neg (show ¬ (false=true) by decide)] at H;exact H
   clear H
   have H:=H1
   clear H1
   obtain rfl:=Option.some.inj H
   go_enter Try.func70,Try.ntmps70
   go_wp2_with (first|((with_reducible refine zw (f:=90) rfl ?_);refine goesL_ (some 4) rfl rfl Try.func90 (by kernel_rfl) rfl #[.int .u8 a0] rfl (by(try simp only[jq0,jq1,jq2]);first|done|rfl|(simp only[jq3,jq4];rfl)) ?_;(with_reducible refine(xx.calls a0 false _ A2.out).mono ?_);rintro e w' ⟨rfl,⟨nd,rfl⟩⟩;refine⟨_,rfl,?_⟩)|(go_at_call 91;(with_reducible refine(xk.calls a0 false _ A4.out).mono ?_);rintro e w' ⟨rfl,⟨nd,rfl⟩⟩))
   go_ret
   exact⟨by first|rfl|(simp;done)|(simp[*];done),by repeat(first|exact Drawn0.refl _|apply Drawn0.step)⟩
end Go.Proofs.Ytakocdkcfjkmdaa.Pr
namespace Go.Proofs.Ytakocdkcfjkmdaa.Pr
open Go.RowKit Go.Proofs.YtakocdkcfjkmdaaW.PrintWords Go.Proofs.YtakocdkcfjkmdaaW.PrintLast Go.Proofs.YtakocdkcfjkmdaaW.PrintMore
attribute [local go_sem] max2_int min2_int max_two min_two max_three min_three max_four min_four
set_option linter.unusedVariables false
set_option linter.unusedSimpArgs false
mutual
def wj.j0:Nat→ByteArray→Bool→Option (Bool)
 | 0,_,_=>none
 | k + 1,x0,x15=>if x15=true then(some false) else(wj.l0 k x0 (x0.size:Int) 0)
def wj.l0:Nat→ByteArray→Int→Int→Option (Bool)
 | 0,_,_,_=>none
 | k + 1,x0,x17,x18=>if x18 < x17 then(if 0≤x18 then(if x18 < (x0.size:Int) then((qqj.f (bt x0 x18)).bind fun t102=>(if t102=true then(wj.l0 k x0 x17 (wrap64 (x18 + 1))) else(some false))) else(none)) else(none)) else(some true)
end
def wj.f (k:Nat) (a0:ByteArray):Option (Bool):=if a0.toList=([]:List UInt8) then(wj.j0 k a0 true) else(if (a0.size:Int) > 30 then(wj.j0 k a0 true) else(if 0 < (a0.size:Int) then((xk.f (bt a0 0)).bind fun t101=>(wj.j0 k a0 t101)) else(none)))
theorem wj.mono_l:∀ k,(∀ y0 y1,LeO (wj.j0 k y0 y1) (wj.j0 (k + 1) y0 y1))∧(∀ y0 y1 y2,LeO (wj.l0 k y0 y1 y2) (wj.l0 (k + 1) y0 y1 y2))
 | 0=>⟨fun _ _ r h=>by simp[wj.j0] at h,fun _ _ _ r h=>by simp[wj.l0] at h⟩
 | k + 1=>by
  obtain⟨ih0,ih1⟩:=wj.mono_l k
  refine⟨?_,?_⟩
  ·intro y0 y1
   unfold wj.j0
   repeat' first
   | (with_reducible exact ih0 _ _)
   | (with_reducible exact ih1 _ _ _)
   | (with_reducible exact LeO.refl _)
   | (with_reducible exact LeO.none _)
   | (with_reducible refine LeO.ite ?_ ?_)
   | (with_reducible refine LeO.bind ?_ (fun _=>?_))
   | exact ih0 _ _
   | exact ih1 _ _ _
   | exact LeO.none _
   | refine LeO.ite ?_ ?_
   | refine LeO.bind ?_ (fun _=>?_)
  ·intro y0 y1 y2
   unfold wj.l0
   repeat' first
   | (with_reducible exact ih0 _ _)
   | (with_reducible exact ih1 _ _ _)
   | (with_reducible exact LeO.refl _)
   | (with_reducible exact LeO.none _)
   | (with_reducible refine LeO.ite ?_ ?_)
   | (with_reducible refine LeO.bind ?_ (fun _=>?_))
   | exact ih0 _ _
   | exact ih1 _ _ _
   | exact LeO.none _
   | refine LeO.ite ?_ ?_
   | refine LeO.bind ?_ (fun _=>?_)
theorem wj.mono:∀ a0 k,LeO (wj.f k a0) (wj.f (k + 1) a0):=by
 intro a0 k
 obtain⟨ih0,ih1⟩:=wj.mono_l k
 unfold wj.f
 repeat' first
   | (with_reducible exact ih0 _ _)
   | (with_reducible exact ih1 _ _ _)
   | (with_reducible exact LeO.refl _)
   | (with_reducible exact LeO.none _)
   | (with_reducible refine LeO.ite ?_ ?_)
   | (with_reducible refine LeO.bind ?_ (fun _=>?_))
   | exact ih0 _ _
   | exact ih1 _ _ _
   | exact LeO.none _
   | refine LeO.ite ?_ ?_
   | refine LeO.bind ?_ (fun _=>?_)
theorem wj.calls (k:Nat) (a0:ByteArray) (r:Bool) (w:World) (h:wj.f k a0=some r) :
  Calls Try.prog 97 #[.string a0] w fun e w'=>e=.returned (.bool r)∧Drawn0 w w':=by
 unfold wj.f at h
 have H:=h
 clear h
 have HC2:=X.mk H
 clear H
 go_enter Try.func97,Try.ntmps97
 go_upto_region 1 with (fail)
 go_cut [15] (fun v15 wc=>∃ (kq:Nat) (x15_1:Bool),v15=.bool x15_1∧X (wj.j0 kq a0 x15_1=some r)∧X (kq≤k)∧Drawn0 w wc)
 case first =>
  have H:=HC2.out
  clear HC2
  by_cases c3:a0.toList=([]:List UInt8)
  ·rw[if_pos c3] at H
   have c3b0:(a0.toList == ([]:List UInt8))=true:=beq_iff_eq.mpr c3
   have c3b1:(a0.toList != ([]:List UInt8))=false:=bne_eq_false_iff_eq.mpr c3
   clear c3
   (first|rw[c3b0]|(simp only[i64_w,i32_w];rw[c3b0])|skip)
   have H':=X.mk H
   clear H
   go_wp2
   go_meet
   case rel=>exact⟨_,(true),(by first|rfl|(simp;done)|(simp[*];done)|(generalize ByteArray.toList _=l_;cases l_ <;> first|rfl|(simp;done))),H',⟨by first|omega|exact Nat.le_refl _⟩,by repeat(first|exact Drawn0.refl _|apply Drawn0.step)⟩
  ·rw[if_neg c3] at H
   have c3b0:(a0.toList == ([]:List UInt8))=false:=beq_eq_false_iff_ne.mpr c3
   have c3b1:(a0.toList != ([]:List UInt8))=true:=bne_iff_ne.mpr c3
   (first|rw[c3b0]|(simp only[i64_w,i32_w];rw[c3b0])|skip)
   by_cases c4:(a0.size:Int) > 30
   ·rw[if_pos c4] at H
    have c4b0:decide (30 < (a0.size:Int))=true:=decide_eq_true c4
    have c4b1:decide (30 < a0.size)=true:=decide_eq_true (by omega)
    clear c4
    have H':=X.mk H
    clear H
    go_wp2
    go_meet
    case rel=>exact⟨_,(true),(by first|rfl|(simp;done)|(simp[*];done)|(generalize ByteArray.toList _=l_;cases l_ <;> first|rfl|(simp;done))),H',⟨by first|omega|exact Nat.le_refl _⟩,by repeat(first|exact Drawn0.refl _|apply Drawn0.step)⟩
   ·rw[if_neg c4] at H
    have c4b0:decide (30 < (a0.size:Int))=false:=decide_eq_false c4
    have c4b1:decide (30 < a0.size)=false:=decide_eq_false (by omega)
    clear c4
    by_cases c5 : 0 < (a0.size:Int)
    ·rw[if_pos c5] at H
     have c5b0:decide (0 < (a0.size:Int))=true:=decide_eq_true c5
     have c5b1:decide (0 < a0.size)=true:=decide_eq_true (by omega)
     clear c5
     replace H:=jq8.mp H
     obtain⟨t101,A70,H⟩:=H
     replace H:(wj.j0 k a0 t101)=some r:=H
     have A7:=X.mk A70
     clear A70
     have H':=X.mk H
     clear H
     have p6 : 0≤(0:Int):=(by omega)
     have q6 : 0 < a0.size:=(by have:(0:Int) < (a0.size:Int):=of_decide_eq_true (by assumption);omega)
     have hx6:∀ h : 0 < a0.size,((a0[0]'h).toNat:Int)=bt a0 0:=bt_at a0 0
     clear p6
     have qi6:(0 < (a0.size:Int))=True:=eq_true (of_decide_eq_true (by assumption))
     replace q6:=eq_true q6
     go_wp2_with (first|(go_at_call 91;(with_reducible refine(xk.calls (bt a0 0) t101 _ A7.out).mono ?_);rintro e w' ⟨rfl,⟨nd,rfl⟩⟩))
     go_meet
     case rel=>exact⟨_,(t101),(by first|rfl|(simp;done)|(simp[*];done)|(generalize ByteArray.toList _=l_;cases l_ <;> first|rfl|(simp;done))),H',⟨by first|omega|exact Nat.le_refl _⟩,by repeat(first|exact Drawn0.refl _|apply Drawn0.step)⟩
    ·rw[if_neg c5] at H
     exact absurd H (by simp)
 case rest =>
  clear HC2
  try clear p2
  try clear c3
  try clear c3b0
  try clear c3b1
  try clear c4
  try clear c4b0
  try clear c4b1
  try clear c5
  try clear c5b0
  try clear c5b1
  try clear p6
  try clear q6
  try clear hx6
  try clear qi6
  try clear p6
  try clear q6
  obtain⟨kq,x15_1,rfl,HA,HJ1,⟨mc1,rfl⟩⟩:=hcut
  cases kq with
  | zero=>exact absurd HA.out (by simp[wj.j0])
  | succ kj1 =>
   have H:=HA.out
   clear HA
   simp only[wj.j0] at H
   by_cases c8:x15_1=true
   ·subst c8
    have H1:(some false)=some r:=by rw[if_pos rfl] at H;exact H
    clear H
    have H:=H1
    clear H1
    obtain rfl:=Option.some.inj H
    go_wp2
    go_ret
    exact⟨by first|rfl|(simp;done)|(simp[*];done),by repeat(first|exact Drawn0.refl _|apply Drawn0.step)⟩
   ·replace c8:=jq9.mpr c8
    subst c8
    have H1:(wj.l0 kj1 a0 (a0.size:Int) 0)=some r:=by rw[if_neg (show ¬ (false=true) by decide)] at H;exact H
    clear H
    have H:=H1
    clear H1
    have H':=X.mk H
    clear H
    go_wp2
    go_loopg [18] kj1 (fun kq v18 w'=>∃ (x18_2:Int),v18=.int .i64 x18_2∧X (wj.l0 kq a0 (a0.size:Int) x18_2=some r)∧X (kq≤kj1)∧Drawn0 w w')
    case atStart=>exact⟨(0),(by first|rfl|(simp;done)|(simp[*];done)|(generalize ByteArray.toList _=l_;cases l_ <;> first|rfl|(simp;done))),H',⟨Nat.le_refl _⟩,by repeat(first|exact Drawn0.refl _|apply Drawn0.step)⟩
    case round =>
     clear H'
     try clear c1
     try clear p2
     try clear c3
     try clear c3b0
     try clear c3b1
     try clear c4
     try clear c4b0
     try clear c4b1
     try clear c5
     try clear c5b0
     try clear c5b1
     try clear p6
     try clear q6
     try clear hx6
     try clear qi6
     try clear c8
     try clear p2
     try clear p6
     try clear q6
     obtain⟨x18_2,rfl,HA,HK2,⟨m2,rfl⟩⟩:=hrel
     cases gk with
     | zero=>exact absurd HA.out (by simp[wj.l0])
     | succ k2 =>
      have H:=HA.out
      clear HA
      simp only[wj.l0] at H
      by_cases c9:x18_2 < (a0.size:Int)
      ·rw[if_pos c9] at H
       have c9b0:decide (x18_2 < (a0.size:Int))=true:=decide_eq_true c9
       clear c9
       by_cases c10 : 0≤x18_2
       ·rw[if_pos c10] at H
        have c10b0:decide (0≤x18_2)=true:=decide_eq_true c10
        clear c10
        by_cases c11:x18_2 < (a0.size:Int)
        ·rw[if_pos c11] at H
         have c11b0:decide (x18_2 < (a0.size:Int))=true:=decide_eq_true c11
         clear c11
         replace H:=jq8.mp H
         obtain⟨t102,A130,H⟩:=H
         try dsimp only at H
         have A13:=X.mk A130
         clear A130
         by_cases c14:t102=true
         ·subst c14
          have H1:(wj.l0 k2 a0 (a0.size:Int) (wrap64 (x18_2 + 1)))=some r:=by rw[if_pos rfl] at H;exact H
          clear H
          have H:=H1
          clear H1
          have H':=X.mk H
          clear H
          have p12 : 0≤(x18_2:Int):=of_decide_eq_true (by assumption)
          have q12:x18_2 < (a0.size:Int):=of_decide_eq_true (by assumption)
          have hx12:=bt_at a0 x18_2
          replace p12:=eq_true p12
          replace q12:=eq_true q12
          go_wp2_with (first|((with_reducible refine zw (f:=70) rfl ?_);refine goesL_ (some 24) rfl rfl Try.func70 (by kernel_rfl) rfl #[.int .u8 (bt a0 x18_2)] rfl (by(try simp only[jq0,jq1,jq2]);first|done|rfl|(simp only[jq3,jq4];rfl)) ?_;(with_reducible refine(qqj.calls (bt a0 x18_2) true _ A13.out).mono ?_);rintro e w' ⟨rfl,⟨nd,rfl⟩⟩;refine⟨_,rfl,?_⟩))
          go_roundg k2
          case measure=>have:=HJ1.out;have:=HK2.out;omega
          case rel=>exact⟨(wrap64 (x18_2 + 1)),(by first|rfl|(simp;done)|(simp[*];done)|(generalize ByteArray.toList _=l_;cases l_ <;> first|rfl|(simp;done))),H',⟨by have:=HJ1.out;have:=HK2.out;omega⟩,by repeat(first|exact Drawn0.refl _|apply Drawn0.step)⟩
         ·replace c14:=jq9.mpr c14
          subst c14
          have H1:(some false)=some r:=by rw[if_neg (show ¬ (false=true) by decide)] at H;exact H
          clear H
          have H:=H1
          clear H1
          obtain rfl:=Option.some.inj H
          have p12 : 0≤(x18_2:Int):=of_decide_eq_true (by assumption)
          have q12:x18_2 < (a0.size:Int):=of_decide_eq_true (by assumption)
          have hx12:=bt_at a0 x18_2
          replace p12:=eq_true p12
          replace q12:=eq_true q12
          go_wp2_with (first|((with_reducible refine zw (f:=70) rfl ?_);refine goesL_ (some 24) rfl rfl Try.func70 (by kernel_rfl) rfl #[.int .u8 (bt a0 x18_2)] rfl (by(try simp only[jq0,jq1,jq2]);first|done|rfl|(simp only[jq3,jq4];rfl)) ?_;(with_reducible refine(qqj.calls (bt a0 x18_2) false _ A13.out).mono ?_);rintro e w' ⟨rfl,⟨nd,rfl⟩⟩;refine⟨_,rfl,?_⟩))
          go_ret
          exact⟨by first|rfl|(simp;done)|(simp[*];done),by repeat(first|exact Drawn0.refl _|apply Drawn0.step)⟩
        ·rw[if_neg c11] at H
         exact absurd H (by simp)
       ·rw[if_neg c10] at H
        exact absurd H (by simp)
      ·rw[if_neg c9] at H
       have c9b0:decide (x18_2 < (a0.size:Int))=false:=decide_eq_false c9
       clear c9
       obtain rfl:=Option.some.inj H
       go_wp2
       go_ret
       exact⟨by first|rfl|(simp;done)|(simp[*];done),by repeat(first|exact Drawn0.refl _|apply Drawn0.step)⟩
end Go.Proofs.Ytakocdkcfjkmdaa.Pr
namespace Go.Proofs.Ytakocdkcfjkmdaa.Pr
open Go.RowKit Go.Proofs.YtakocdkcfjkmdaaW.PrintWords Go.Proofs.YtakocdkcfjkmdaaW.PrintLast Go.Proofs.YtakocdkcfjkmdaaW.PrintMore
attribute [local go_sem] max2_int min2_int max_two min_two max_three min_three max_four min_four
set_option linter.unusedVariables false
set_option linter.unusedSimpArgs false
def xz.f (k:Nat) (a0:ByteArray):Option (Bool):=(wj.f k a0).bind fun t101=>(some (!t101))
theorem xz.mono:∀ a0 k,LeO (xz.f k a0) (xz.f (k + 1) a0):=by
 intro a0 k
 unfold xz.f
 repeat' first
   | (with_reducible exact wj.mono _ _)
   | (with_reducible exact LeO.refl _)
   | (with_reducible exact LeO.none _)
   | (with_reducible refine LeO.ite ?_ ?_)
   | (with_reducible refine LeO.bind ?_ (fun _=>?_))
   | exact wj.mono _ _
   | exact LeO.none _
   | refine LeO.ite ?_ ?_
   | refine LeO.bind ?_ (fun _=>?_)
theorem xz.calls (k:Nat) (a0:ByteArray) (r:Bool) (w:World) (h:xz.f k a0=some r) :
  Calls Try.prog 96 #[.string a0] w fun e w'=>e=.returned (.bool r)∧Drawn0 w w':=by
 have H:((wj.f k a0).bind fun t101=>(some (!t101)))=some r:=h
 clear h
 replace H:=jq8.mp H
 obtain⟨t101,A20,H⟩:=H
 replace H:(some (!t101))=some r:=H
 have A2:=X.mk A20
 clear A20
 obtain rfl:=Option.some.inj H
 go_enter Try.func96,Try.ntmps96
 go_wp2_with (first|((with_reducible refine zw (f:=97) rfl ?_);refine goesL_ (some 4) rfl rfl Try.func97 (by kernel_rfl) rfl #[.string a0] rfl (by(try simp only[jq0,jq1,jq2]);first|done|rfl|(simp only[jq3,jq4];rfl)) ?_;(with_reducible refine(wj.calls k a0 t101 _ A2.out).mono ?_);rintro e w' ⟨rfl,⟨nd,rfl⟩⟩;refine⟨_,rfl,?_⟩))
 go_ret
 exact⟨by first|rfl|(simp;done)|(simp[*];done),by repeat(first|exact Drawn0.refl _|apply Drawn0.step)⟩
end Go.Proofs.Ytakocdkcfjkmdaa.Pr
namespace Go.Proofs.Ytakocdkcfjkmdaa.Pr
open Go.RowKit Go.Proofs.YtakocdkcfjkmdaaW.PrintWords Go.Proofs.YtakocdkcfjkmdaaW.PrintLast Go.Proofs.YtakocdkcfjkmdaaW.PrintMore
set_option linter.unusedVariables false
def has_impl_yallNames_1.f (k:Nat) (l:List ByteArray):Option Bool:=anyO (xz.f k) l
theorem has_impl_yallNames_1.mono (l:List ByteArray) (k:Nat):LeO (has_impl_yallNames_1.f k l) (has_impl_yallNames_1.f (k + 1) l):=anyO_mono (fun x=>xz.mono x k) l
theorem has_impl_yallNames_1.calls (k:Nat) (A0:Option Addr) (c0:Nat) (l0:List ByteArray) (r:Bool) (w:World) (hr0:Kd.C Kd.string w A0 l0.length l0) (hc0:l0.length≤c0) (h:has_impl_yallNames_1.f k l0=some r) :
  Calls Try.prog 48 #[.slice A0 l0.length c0,.func (.func 96) #[] #[]] w fun e w'=>e=.returned (.bool r)∧Drawn0 w w' :=
 containsStr_calls 96 (xz.f k) (enters_of Try.func96 (by kernel_rfl) rfl) (fun x b W hb=>xz.calls k x b W hb) A0 c0 l0 r w hr0 h
def has_impl_GoodServer_1.f (k:Nat) (l:List ByteArray):Option Bool:=anyO (wv.f k) l
theorem has_impl_GoodServer_1.mono (l:List ByteArray) (k:Nat):LeO (has_impl_GoodServer_1.f k l) (has_impl_GoodServer_1.f (k + 1) l):=anyO_mono (fun x=>wv.mono x k) l
theorem has_impl_GoodServer_1.calls (k:Nat) (A0:Option Addr) (c0:Nat) (l0:List ByteArray) (r:Bool) (w:World) (hr0:Kd.C Kd.string w A0 l0.length l0) (hc0:l0.length≤c0) (h:has_impl_GoodServer_1.f k l0=some r) :
  Calls Try.prog 48 #[.slice A0 l0.length c0,.func (.func 49) #[] #[]] w fun e w'=>e=.returned (.bool r)∧Drawn0 w w' :=
 containsStr_calls 49 (wv.f k) (enters_of Try.func49 (by kernel_rfl) rfl) (fun x b W hb=>wv.calls k x b W hb) A0 c0 l0 r w hr0 h
def has_impl_GoodServer_2.f (k:Nat) (l:List Int):Option Bool:=anyO (ww.f) l
theorem has_impl_GoodServer_2.mono (l:List Int) (k:Nat):LeO (has_impl_GoodServer_2.f k l) (has_impl_GoodServer_2.f (k + 1) l):=anyO_mono (fun x=>LeO.refl _) l
theorem has_impl_GoodServer_2.calls (k:Nat) (A0:Option Addr) (c0:Nat) (l0:List Int) (r:Bool) (w:World) (hr0:Kd.C (Kd.int .i64) w A0 l0.length l0) (hc0:l0.length≤c0) (h:has_impl_GoodServer_2.f k l0=some r) :
  Calls Try.prog 51 #[.slice A0 l0.length c0,.func (.func 52) #[] #[]] w fun e w'=>e=.returned (.bool r)∧Drawn0 w w' :=
 containsInt_calls 52 (ww.f) (enters_of Try.func52 (by kernel_rfl) rfl) (fun x b W hb=>ww.calls x b W hb) A0 c0 l0 r w hr0 h
end Go.Proofs.Ytakocdkcfjkmdaa.Pr
namespace Go.Proofs.Ytakocdkcfjkmdaa.Pr
open Go.RowKit Go.Proofs.YtakocdkcfjkmdaaW.PrintWords Go.Proofs.YtakocdkcfjkmdaaW.PrintLast Go.Proofs.YtakocdkcfjkmdaaW.PrintMore
attribute [local go_sem] max2_int min2_int max_two min_two max_three min_three max_four min_four
set_option linter.unusedVariables false
set_option linter.unusedSimpArgs false
mutual
def xw.j0:Nat→ByteArray→Bool→Option (Bool)
 | 0,_,_=>none
 | k + 1,x0,x11=>if x11=true then(some false) else(xw.l0 k x0 (x0.size:Int) 0)
def xw.l0:Nat→ByteArray→Int→Int→Option (Bool)
 | 0,_,_,_=>none
 | k + 1,x0,x13,x14=>if x14 < x13 then(if 0≤x14 then(if x14 < (x0.size:Int) then((qqj.f (bt x0 x14)).bind fun t101=>(if t101=true then(xw.l0 k x0 x13 (wrap64 (x14 + 1))) else(if (bt x0 x14)=45 then(xw.l0 k x0 x13 (wrap64 (x14 + 1))) else(if (bt x0 x14)=46 then(xw.l0 k x0 x13 (wrap64 (x14 + 1))) else(some false))))) else(none)) else(none)) else(some true)
end
def xw.f (k:Nat) (a0:ByteArray):Option (Bool):=if (a0.size:Int) < 1 then(xw.j0 k a0 true) else(xw.j0 k a0 (decide ((a0.size:Int) > 40)))
theorem xw.calls (k:Nat) (a0:ByteArray) (r:Bool) (w:World) (h:xw.f k a0=some r) :
  Calls Try.prog 40 #[.string a0] w fun e w'=>e=.returned (.bool r)∧Drawn0 w w':=by
 unfold xw.f at h
 have H:=h
 clear h
 have HC2:=X.mk H
 clear H
 go_enter Try.func40,Try.ntmps40
 go_upto_region 1 with (fail)
 go_cut [11] (fun v11 wc=>∃ (kq:Nat) (x11_1:Bool),v11=.bool x11_1∧X (xw.j0 kq a0 x11_1=some r)∧X (kq≤k)∧Drawn0 w wc)
 case first =>
  have H:=HC2.out
  clear HC2
  by_cases c3:(a0.size:Int) < 1
  ·rw[if_pos c3] at H
   have c3b0:decide ((a0.size:Int) < 1)=true:=decide_eq_true c3
   have c3b1:decide (a0.size < 1)=true:=decide_eq_true (by omega)
   clear c3
   (first|rw[c3b0]|(simp only[i64_w,i32_w];rw[c3b0])|skip)
   have H':=X.mk H
   clear H
   go_wp2
   go_meet
   case rel=>exact⟨_,(true),(by first|rfl|(simp;done)|(simp[*];done)),H',⟨by first|omega|exact Nat.le_refl _⟩,by repeat(first|exact Drawn0.refl _|apply Drawn0.step)⟩
  ·rw[if_neg c3] at H
   have c3b0:decide ((a0.size:Int) < 1)=false:=decide_eq_false c3
   have c3b1:decide (a0.size < 1)=false:=decide_eq_false (by omega)
   clear c3
   (first|rw[c3b0]|(simp only[i64_w,i32_w];rw[c3b0])|skip)
   have H':=X.mk H
   clear H
   go_wp2
   go_meet
   case rel=>exact⟨_,(decide ((a0.size:Int) > 40)),(by first|rfl|(simp;done)|(simp[*];done)),H',⟨by first|omega|exact Nat.le_refl _⟩,by repeat(first|exact Drawn0.refl _|apply Drawn0.step)⟩
 case rest =>
  clear HC2
  try clear p2
  try clear c3
  try clear c3b0
  try clear c3b1
  obtain⟨kq,x11_1,rfl,HA,HJ1,⟨mc1,rfl⟩⟩:=hcut
  cases kq with
  | zero=>exact absurd HA.out (by simp[xw.j0])
  | succ kj1 =>
   have H:=HA.out
   clear HA
   simp only[xw.j0] at H
   by_cases c4:x11_1=true
   ·subst c4
    have H1:(some false)=some r:=by rw[if_pos rfl] at H;exact H
    clear H
    have H:=H1
    clear H1
    obtain rfl:=Option.some.inj H
    go_wp2
    go_ret
    exact⟨by first|rfl|(simp;done)|(simp[*];done),by repeat(first|exact Drawn0.refl _|apply Drawn0.step)⟩
   ·replace c4:=jq9.mpr c4
    subst c4
    have H1:(xw.l0 kj1 a0 (a0.size:Int) 0)=some r:=by rw[if_neg (show ¬ (false=true) by decide)] at H;exact H
    clear H
    have H:=H1
    clear H1
    have H':=X.mk H
    clear H
    go_wp2
    go_loopg [14] kj1 (fun kq v14 w'=>∃ (x14_2:Int),v14=.int .i64 x14_2∧X (xw.l0 kq a0 (a0.size:Int) x14_2=some r)∧X (kq≤kj1)∧Drawn0 w w')
    case atStart=>exact⟨(0),(by first|rfl|(simp;done)|(simp[*];done)),H',⟨Nat.le_refl _⟩,by repeat(first|exact Drawn0.refl _|apply Drawn0.step)⟩
    case round =>
     clear H'
     try clear c1
     try clear p2
     try clear c3
     try clear c3b0
     try clear c3b1
     try clear c4
     try clear p2
     obtain⟨x14_2,rfl,HA,HK2,⟨m2,rfl⟩⟩:=hrel
     cases gk with
     | zero=>exact absurd HA.out (by simp[xw.l0])
     | succ k2 =>
      have H:=HA.out
      clear HA
      simp only[xw.l0] at H
      by_cases c5:x14_2 < (a0.size:Int)
      ·rw[if_pos c5] at H
       have c5b0:decide (x14_2 < (a0.size:Int))=true:=decide_eq_true c5
       clear c5
       by_cases c6 : 0≤x14_2
       ·rw[if_pos c6] at H
        have c6b0:decide (0≤x14_2)=true:=decide_eq_true c6
        clear c6
        by_cases c7:x14_2 < (a0.size:Int)
        ·rw[if_pos c7] at H
         have c7b0:decide (x14_2 < (a0.size:Int))=true:=decide_eq_true c7
         clear c7
         replace H:=jq8.mp H
         obtain⟨t101,A90,H⟩:=H
         try dsimp only at H
         have A9:=X.mk A90
         clear A90
         by_cases c10:t101=true
         ·subst c10
          have H1:(xw.l0 k2 a0 (a0.size:Int) (wrap64 (x14_2 + 1)))=some r:=by rw[if_pos rfl] at H;exact H
          clear H
          have H:=H1
          clear H1
          have H':=X.mk H
          clear H
          have p8 : 0≤(x14_2:Int):=of_decide_eq_true (by assumption)
          have q8:x14_2 < (a0.size:Int):=of_decide_eq_true (by assumption)
          have hx8:=bt_at a0 x14_2
          replace p8:=eq_true p8
          replace q8:=eq_true q8
          go_wp2_with (first|((with_reducible refine zw (f:=70) rfl ?_);refine goesL_ (some 20) rfl rfl Try.func70 (by kernel_rfl) rfl #[.int .u8 (bt a0 x14_2)] rfl (by(try simp only[jq0,jq1,jq2]);first|done|rfl|(simp only[jq3,jq4];rfl)) ?_;(with_reducible refine(qqj.calls (bt a0 x14_2) true _ A9.out).mono ?_);rintro e w' ⟨rfl,⟨nd,rfl⟩⟩;refine⟨_,rfl,?_⟩))
          go_roundg k2
          case measure=>have:=HJ1.out;have:=HK2.out;omega
          case rel=>exact⟨(wrap64 (x14_2 + 1)),(by first|rfl|(simp;done)|(simp[*];done)),H',⟨by have:=HJ1.out;have:=HK2.out;omega⟩,by repeat(first|exact Drawn0.refl _|apply Drawn0.step)⟩
         ·replace c10:=jq9.mpr c10
          subst c10
          have H1:(if (bt a0 x14_2)=45 then(xw.l0 k2 a0 (a0.size:Int) (wrap64 (x14_2 + 1))) else(if (bt a0 x14_2)=46 then(xw.l0 k2 a0 (a0.size:Int) (wrap64 (x14_2 + 1))) else(some false)))=some r:=by rw[if_neg (show ¬ (false=true) by decide)] at H;exact H
          clear H
          have H:=H1
          clear H1
          by_cases c12:(bt a0 x14_2)=45
          ·rw[if_pos c12] at H
           have c12b0:((bt a0 x14_2) == 45)=true:=beq_iff_eq.mpr c12
           have c12b1:((bt a0 x14_2) != 45)=false:=bne_eq_false_iff_eq.mpr c12
           clear c12
           have H':=X.mk H
           clear H
           have p8 : 0≤(x14_2:Int):=of_decide_eq_true (by assumption)
           have q8:x14_2 < (a0.size:Int):=of_decide_eq_true (by assumption)
           have hx8:=bt_at a0 x14_2
           replace p8:=eq_true p8
           replace q8:=eq_true q8
           go_wp2_with (first|((with_reducible refine zw (f:=70) rfl ?_);refine goesL_ (some 20) rfl rfl Try.func70 (by kernel_rfl) rfl #[.int .u8 (bt a0 x14_2)] rfl (by(try simp only[jq0,jq1,jq2]);first|done|rfl|(simp only[jq3,jq4];rfl)) ?_;(with_reducible refine(qqj.calls (bt a0 x14_2) false _ A9.out).mono ?_);rintro e w' ⟨rfl,⟨nd,rfl⟩⟩;refine⟨_,rfl,?_⟩;have p11 : 0≤(x14_2:Int):=of_decide_eq_true (by assumption);have q11:x14_2 < (a0.size:Int):=of_decide_eq_true (by assumption);have hx11:=bt_at a0 x14_2;replace p11:=eq_true p11;replace q11:=eq_true q11))
           go_roundg k2
           case measure=>have:=HJ1.out;have:=HK2.out;omega
           case rel=>exact⟨(wrap64 (x14_2 + 1)),(by first|rfl|(simp;done)|(simp[*];done)),H',⟨by have:=HJ1.out;have:=HK2.out;omega⟩,by repeat(first|exact Drawn0.refl _|apply Drawn0.step)⟩
          ·rw[if_neg c12] at H
           have c12b0:((bt a0 x14_2) == 45)=false:=beq_eq_false_iff_ne.mpr c12
           have c12b1:((bt a0 x14_2) != 45)=true:=bne_iff_ne.mpr c12
           by_cases c14:(bt a0 x14_2)=46
           ·rw[if_pos c14] at H
            have c14b0:((bt a0 x14_2) == 46)=true:=beq_iff_eq.mpr c14
            have c14b1:((bt a0 x14_2) != 46)=false:=bne_eq_false_iff_eq.mpr c14
            clear c14
            have H':=X.mk H
            clear H
            have p8 : 0≤(x14_2:Int):=of_decide_eq_true (by assumption)
            have q8:x14_2 < (a0.size:Int):=of_decide_eq_true (by assumption)
            have hx8:=bt_at a0 x14_2
            replace p8:=eq_true p8
            replace q8:=eq_true q8
            go_wp2_with (first|((with_reducible refine zw (f:=70) rfl ?_);refine goesL_ (some 20) rfl rfl Try.func70 (by kernel_rfl) rfl #[.int .u8 (bt a0 x14_2)] rfl (by(try simp only[jq0,jq1,jq2]);first|done|rfl|(simp only[jq3,jq4];rfl)) ?_;(with_reducible refine(qqj.calls (bt a0 x14_2) false _ A9.out).mono ?_);rintro e w' ⟨rfl,⟨nd,rfl⟩⟩;refine⟨_,rfl,?_⟩;have p11 : 0≤(x14_2:Int):=of_decide_eq_true (by assumption);have q11:x14_2 < (a0.size:Int):=of_decide_eq_true (by assumption);have hx11:=bt_at a0 x14_2;replace p11:=eq_true p11;replace q11:=eq_true q11;have p13 : 0≤(x14_2:Int):=of_decide_eq_true (by assumption);have q13:x14_2 < (a0.size:Int):=of_decide_eq_true (by assumption);have hx13:=bt_at a0 x14_2;replace p13:=eq_true p13;replace q13:=eq_true q13))
            go_roundg k2
            case measure=>have:=HJ1.out;have:=HK2.out;omega
            case rel=>exact⟨(wrap64 (x14_2 + 1)),(by first|rfl|(simp;done)|(simp[*];done)),H',⟨by have:=HJ1.out;have:=HK2.out;omega⟩,by repeat(first|exact Drawn0.refl _|apply Drawn0.step)⟩
           ·rw[if_neg c14] at H
            have c14b0:((bt a0 x14_2) == 46)=false:=beq_eq_false_iff_ne.mpr c14
            have c14b1:((bt a0 x14_2) != 46)=true:=bne_iff_ne.mpr c14
            obtain rfl:=Option.some.inj H
            have p8 : 0≤(x14_2:Int):=of_decide_eq_true (by assumption)
            have q8:x14_2 < (a0.size:Int):=of_decide_eq_true (by assumption)
            have hx8:=bt_at a0 x14_2
            replace p8:=eq_true p8
            replace q8:=eq_true q8
            go_wp2_with (first|((with_reducible refine zw (f:=70) rfl ?_);refine goesL_ (some 20) rfl rfl Try.func70 (by kernel_rfl) rfl #[.int .u8 (bt a0 x14_2)] rfl (by(try simp only[jq0,jq1,jq2]);first|done|rfl|(simp only[jq3,jq4];rfl)) ?_;(with_reducible refine(qqj.calls (bt a0 x14_2) false _ A9.out).mono ?_);rintro e w' ⟨rfl,⟨nd,rfl⟩⟩;refine⟨_,rfl,?_⟩;have p11 : 0≤(x14_2:Int):=of_decide_eq_true (by assumption);have q11:x14_2 < (a0.size:Int):=of_decide_eq_true (by assumption);have hx11:=bt_at a0 x14_2;replace p11:=eq_true p11;replace q11:=eq_true q11;have p13 : 0≤(x14_2:Int):=of_decide_eq_true (by assumption);have q13:x14_2 < (a0.size:Int):=of_decide_eq_true (by assumption);have hx13:=bt_at a0 x14_2;replace p13:=eq_true p13;replace q13:=eq_true q13))
            go_ret
            exact⟨by first|rfl|(simp;done)|(simp[*];done),by repeat(first|exact Drawn0.refl _|apply Drawn0.step)⟩
        ·rw[if_neg c7] at H
         exact absurd H (by simp)
       ·rw[if_neg c6] at H
        exact absurd H (by simp)
      ·rw[if_neg c5] at H
       have c5b0:decide (x14_2 < (a0.size:Int))=false:=decide_eq_false c5
       clear c5
       obtain rfl:=Option.some.inj H
       go_wp2
       go_ret
       exact⟨by first|rfl|(simp;done)|(simp[*];done),by repeat(first|exact Drawn0.refl _|apply Drawn0.step)⟩
end Go.Proofs.Ytakocdkcfjkmdaa.Pr
namespace Go.Proofs.Ytakocdkcfjkmdaa.Pr
open Go.RowKit Go.Proofs.YtakocdkcfjkmdaaW.PrintWords Go.Proofs.YtakocdkcfjkmdaaW.PrintLast Go.Proofs.YtakocdkcfjkmdaaW.PrintMore
attribute [local go_sem] max2_int min2_int max_two min_two max_three min_three max_four min_four
set_option linter.unusedVariables false
set_option linter.unusedSimpArgs false
def qqz.l0:Nat→List ByteArray→List ByteArray→Int→Int→Option (Bool)
 | 0,_,_,_,_=>none
 | k + 1,x0,x5,x6,x7=>if x7 < x6 then(if 0≤x7 then(if x7 < (x5.length:Int) then(if x7 > 0 then(if 0≤(wrap64 (x7 - 1)) then(if (wrap64 (x7 - 1)) < (x0.length:Int) then(if ((Op.bytesLess ((rdOf ByteArray.empty x0 (wrap64 (x7 - 1))).toList) ((rdOf ByteArray.empty x5 x7).toList))=true) then(qqz.l0 k x0 x5 x6 (wrap64 (x7 + 1))) else(some false)) else(none)) else(none)) else(qqz.l0 k x0 x5 x6 (wrap64 (x7 + 1)))) else(none)) else(none)) else(some true)
def qqz.f (k:Nat) (l0:List ByteArray):Option (Bool):=qqz.l0 k l0 l0 (l0.length:Int) 0
theorem qqz.calls (k:Nat) (A0:Option Addr) (c0:Nat) (l0:List ByteArray) (r:Bool) (w:World) (hr0:Kd.C Kd.string w A0 l0.length l0) (hc0:l0.length≤c0) (h:qqz.f k l0=some r) :
  Calls Try.prog 76 #[.slice A0 l0.length c0] w fun e w'=>e=.returned (.bool r)∧Drawn0 w w':=by
 have HR0:=X.mk hr0
 have HC0:=X.mk hc0
 clear hr0 hc0
 have H:(qqz.l0 k l0 l0 (l0.length:Int) 0)=some r:=h
 clear h
 have H':=X.mk H
 clear H
 go_enter Try.func76,Try.ntmps76
 go_wp2
 go_loopg [7] k (fun kq v7 w'=>∃ (x7_1:Int),v7=.int .i64 x7_1∧X (qqz.l0 kq l0 l0 (l0.length:Int) x7_1=some r)∧X (kq≤k)∧Drawn0 w w')
 case atStart=>exact⟨(0),(by first|rfl|(simp;done)|(simp[*];done)),H',⟨Nat.le_refl _⟩,by repeat(first|exact Drawn0.refl _|apply Drawn0.step)⟩
 case round =>
  clear H'
  obtain⟨x7_1,rfl,HA,HK1,⟨m1,rfl⟩⟩:=hrel
  cases gk with
  | zero=>exact absurd HA.out (by simp[qqz.l0])
  | succ k1 =>
   have H:=HA.out
   clear HA
   simp only[qqz.l0] at H
   by_cases c2:x7_1 < (l0.length:Int)
   ·rw[if_pos c2] at H
    have c2b0:decide (x7_1 < (l0.length:Int))=true:=decide_eq_true c2
    clear c2
    by_cases c3 : 0≤x7_1
    ·rw[if_pos c3] at H
     have c3b0:decide (0≤x7_1)=true:=decide_eq_true c3
     clear c3
     by_cases c4:x7_1 < (l0.length:Int)
     ·rw[if_pos c4] at H
      have c4b0:decide (x7_1 < (l0.length:Int))=true:=decide_eq_true c4
      clear c4
      by_cases c5:x7_1 > 0
      ·rw[if_pos c5] at H
       have c5b0:decide (0 < x7_1)=true:=decide_eq_true c5
       clear c5
       obtain⟨ji6,hji6⟩ : ∃ j_:Int,(wrap64 (x7_1 - 1))=j_:=⟨_,rfl⟩
       replace H:(if 0≤(ji6) then(if (ji6) < (l0.length:Int) then(if ((Op.bytesLess ((rdOf ByteArray.empty l0 (ji6)).toList) ((rdOf ByteArray.empty l0 x7_1).toList))=true) then(qqz.l0 k1 l0 l0 (l0.length:Int) (wrap64 (x7_1 + 1))) else(some false)) else(none)) else(none))=some r:=by first|(rw[hji6] at H;exact H)|(simp only[hji6] at H ⊢;exact H)
       have hji6w:(IntKind.i64.wrap (x7_1 - 1))=ji6:=(i64_w _).trans hji6
       by_cases c7 : 0≤(ji6)
       ·rw[if_pos c7] at H
        have c7b0:decide (0≤(ji6))=true:=decide_eq_true c7
        clear c7
        by_cases c8:(ji6) < (l0.length:Int)
        ·rw[if_pos c8] at H
         have c8b0:decide ((ji6) < (l0.length:Int))=true:=decide_eq_true c8
         clear c8
         by_cases c9:((Op.bytesLess ((rdOf ByteArray.empty l0 (ji6)).toList) ((rdOf ByteArray.empty l0 x7_1).toList))=true)
         ·rw[if_pos c9] at H
          have c9b0:(Op.bytesLess ((rdOf ByteArray.empty l0 (ji6)).toList) ((rdOf ByteArray.empty l0 x7_1).toList))=true:=c9
          clear c9
          have H':=X.mk H
          clear H
          have p101 : 0≤(x7_1:Int):=of_decide_eq_true (by assumption)
          have q101:x7_1 < (l0.length:Int):=of_decide_eq_true (by assumption)
          obtain⟨ad101,e101,hx101_0⟩:=Kd.at_string HR0.out x7_1 p101 q101
          cases e101
          replace p101:=eq_true p101
          replace q101:=eq_true q101
          have p102 : 0≤((ji6):Int):=of_decide_eq_true (by assumption)
          have q102:(ji6) < (l0.length:Int):=of_decide_eq_true (by assumption)
          obtain⟨ad102,e102,hx102_0⟩:=Kd.at_string HR0.out (ji6) p102 q102
          obtain rfl:ad101=ad102:=(by injection e102)
          replace p102:=eq_true p102
          replace q102:=eq_true q102
          go_wp2
          go_roundg k1
          case measure=>have:=HK1.out;omega
          case rel=>exact⟨(wrap64 (x7_1 + 1)),(by first|rfl|(simp;done)|(simp[*];done)),H',⟨by have:=HK1.out;omega⟩,by repeat(first|exact Drawn0.refl _|apply Drawn0.step)⟩
         ·rw[if_neg c9] at H
          have c9b0:(Op.bytesLess ((rdOf ByteArray.empty l0 (ji6)).toList) ((rdOf ByteArray.empty l0 x7_1).toList))=false:=by simpa using c9
          clear c9
          obtain rfl:=Option.some.inj H
          have p101 : 0≤(x7_1:Int):=of_decide_eq_true (by assumption)
          have q101:x7_1 < (l0.length:Int):=of_decide_eq_true (by assumption)
          obtain⟨ad101,e101,hx101_0⟩:=Kd.at_string HR0.out x7_1 p101 q101
          cases e101
          replace p101:=eq_true p101
          replace q101:=eq_true q101
          have p102 : 0≤((ji6):Int):=of_decide_eq_true (by assumption)
          have q102:(ji6) < (l0.length:Int):=of_decide_eq_true (by assumption)
          obtain⟨ad102,e102,hx102_0⟩:=Kd.at_string HR0.out (ji6) p102 q102
          obtain rfl:ad101=ad102:=(by injection e102)
          replace p102:=eq_true p102
          replace q102:=eq_true q102
          go_wp2
          go_ret
          exact⟨by first|rfl|(simp;done)|(simp only[← hji6] <;> (first|rfl|simp))|(simp[*];done),by repeat(first|exact Drawn0.refl _|apply Drawn0.step)⟩
        ·rw[if_neg c8] at H
         exact absurd H (by simp)
       ·rw[if_neg c7] at H
        exact absurd H (by simp)
      ·rw[if_neg c5] at H
       have c5b0:decide (0 < x7_1)=false:=decide_eq_false c5
       clear c5
       have H':=X.mk H
       clear H
       have p101 : 0≤(x7_1:Int):=of_decide_eq_true (by assumption)
       have q101:x7_1 < (l0.length:Int):=of_decide_eq_true (by assumption)
       obtain⟨ad101,e101,hx101_0⟩:=Kd.at_string HR0.out x7_1 p101 q101
       cases e101
       replace p101:=eq_true p101
       replace q101:=eq_true q101
       go_wp2
       go_roundg k1
       case measure=>have:=HK1.out;omega
       case rel=>exact⟨(wrap64 (x7_1 + 1)),(by first|rfl|(simp;done)|(simp[*];done)),H',⟨by have:=HK1.out;omega⟩,by repeat(first|exact Drawn0.refl _|apply Drawn0.step)⟩
     ·rw[if_neg c4] at H
      exact absurd H (by simp)
    ·rw[if_neg c3] at H
     exact absurd H (by simp)
   ·rw[if_neg c2] at H
    have c2b0:decide (x7_1 < (l0.length:Int))=false:=decide_eq_false c2
    clear c2
    obtain rfl:=Option.some.inj H
    go_wp2
    go_ret
    exact⟨by first|rfl|(simp;done)|(simp[*];done),by repeat(first|exact Drawn0.refl _|apply Drawn0.step)⟩
end Go.Proofs.Ytakocdkcfjkmdaa.Pr
namespace Go.Proofs.Ytakocdkcfjkmdaa.Pr
open Go.RowKit Go.Proofs.YtakocdkcfjkmdaaW.PrintWords Go.Proofs.YtakocdkcfjkmdaaW.PrintLast Go.Proofs.YtakocdkcfjkmdaaW.PrintMore
attribute [local go_sem] max2_int min2_int max_two min_two max_three min_three max_four min_four
set_option linter.unusedVariables false
set_option linter.unusedSimpArgs false
def xq.f (k:Nat) (l0:List ByteArray):Option (Bool):=(has_impl_yallNames_1.f k l0).bind fun t101=>(some (!t101))
theorem xq.calls (k:Nat) (A0:Option Addr) (c0:Nat) (l0:List ByteArray) (r:Bool) (w:World) (hr0:Kd.C Kd.string w A0 l0.length l0) (hc0:l0.length≤c0) (h:xq.f k l0=some r) :
  Calls Try.prog 77 #[.slice A0 l0.length c0] w fun e w'=>e=.returned (.bool r)∧Drawn0 w w':=by
 have HR0:=X.mk hr0
 have HC0:=X.mk hc0
 clear hr0 hc0
 have H:((has_impl_yallNames_1.f k l0).bind fun t101=>(some (!t101)))=some r:=h
 clear h
 replace H:=jq8.mp H
 obtain⟨t101,A20,H⟩:=H
 replace H:(some (!t101))=some r:=H
 have A2:=X.mk A20
 clear A20
 obtain rfl:=Option.some.inj H
 go_enter Try.func77,Try.ntmps77
 go_wp2_with (first|((with_reducible refine zw (f:=48) rfl ?_);refine goesL_ (some 4) rfl rfl Try.func48 (by kernel_rfl) rfl #[.slice A0 l0.length c0,.func (.func 96) #[] #[]] rfl (by(try simp only[jq0,jq1,jq2]);first|done|rfl|(simp only[jq3,jq4];rfl)) ?_;(with_reducible refine(has_impl_yallNames_1.calls k _ _ l0 t101 _ ?side1 ?side2 A2.out).mono ?_);(case side1=>solve_by_elim only[HR0.out,Kd.C_alloc,Kd.C_drewN,Kd.C_drew]);(case side2=>exact HC0.out);rintro e w' ⟨rfl,⟨nd,rfl⟩⟩;refine⟨_,rfl,?_⟩))
 go_ret
 exact⟨by first|rfl|(simp;done)|(simp[*];done),by repeat(first|exact Drawn0.refl _|apply Drawn0.step)⟩
end Go.Proofs.Ytakocdkcfjkmdaa.Pr
namespace Go.Proofs.Ytakocdkcfjkmdaa.Pr
open Go.RowKit Go.Proofs.YtakocdkcfjkmdaaW.PrintWords Go.Proofs.YtakocdkcfjkmdaaW.PrintLast Go.Proofs.YtakocdkcfjkmdaaW.PrintMore
attribute [local go_sem] max2_int min2_int max_two min_two max_three min_three max_four min_four
set_option linter.unusedVariables false
set_option linter.unusedSimpArgs false
def xv.f (k:Nat) (l0:List ByteArray):Option (Bool):=if (l0.length:Int)≤20 then((qqz.f k l0).bind fun t101=>(if t101=true then((xq.f k l0).bind fun t102=>(some t102)) else(some false))) else(some false)
theorem xv.calls (k:Nat) (A0:Option Addr) (c0:Nat) (l0:List ByteArray) (r:Bool) (w:World) (hr0:Kd.C Kd.string w A0 l0.length l0) (hc0:l0.length≤c0) (h:xv.f k l0=some r) :
  Calls Try.prog 47 #[.slice A0 l0.length c0] w fun e w'=>e=.returned (.bool r)∧Drawn0 w w':=by
 have HR0:=X.mk hr0
 have HC0:=X.mk hc0
 clear hr0 hc0
 unfold xv.f at h
 have H:=h
 clear h
 by_cases c2:(l0.length:Int)≤20
 ·rw[if_pos c2] at H
  have c2b0:decide ((l0.length:Int)≤20)=true:=decide_eq_true c2
  have c2b1:decide (l0.length≤20)=true:=decide_eq_true (by omega)
  clear c2
  replace H:=jq8.mp H
  obtain⟨t101,A30,H⟩:=H
  try dsimp only at H
  have A3:=X.mk A30
  clear A30
  by_cases c4:t101=true
  ·subst c4
   have H1:((xq.f k l0).bind fun t102=>(some t102))=some r:=by rw[if_pos rfl] at H;exact H
   clear H
   have H:=H1
   clear H1
   replace H:=jq8.mp H
   obtain⟨t102,A50,H⟩:=H
   replace H:(some t102)=some r:=H
   have A5:=X.mk A50
   clear A50
   obtain rfl:=Option.some.inj H
   go_enter Try.func47,Try.ntmps47
   go_wp2_with (first|(go_at_call 76;(with_reducible refine(qqz.calls k _ _ l0 true _ ?side1 ?side2 A3.out).mono ?_);(case side1=>solve_by_elim only[HR0.out,Kd.C_alloc,Kd.C_drewN,Kd.C_drew]);(case side2=>exact HC0.out);rintro e w' ⟨rfl,⟨nd,rfl⟩⟩)|(go_at_call 77;(with_reducible refine(xq.calls k _ _ l0 t102 _ ?side1 ?side2 A5.out).mono ?_);(case side1=>solve_by_elim only[HR0.out,Kd.C_alloc,Kd.C_drewN,Kd.C_drew]);(case side2=>exact HC0.out);rintro e w' ⟨rfl,⟨nd,rfl⟩⟩))
   go_ret
   exact⟨by first|rfl|(simp;done)|(simp[*];done),by repeat(first|exact Drawn0.refl _|apply Drawn0.step)⟩
  ·replace c4:=jq9.mpr c4
   subst c4
   have H1:(some false)=some r:=by rw[if_neg (show ¬ (false=true) by decide)] at H;exact H
   clear H
   have H:=H1
   clear H1
   obtain rfl:=Option.some.inj H
   go_enter Try.func47,Try.ntmps47
   go_wp2_with (first|(go_at_call 76;(with_reducible refine(qqz.calls k _ _ l0 false _ ?side1 ?side2 A3.out).mono ?_);(case side1=>solve_by_elim only[HR0.out,Kd.C_alloc,Kd.C_drewN,Kd.C_drew]);(case side2=>exact HC0.out);rintro e w' ⟨rfl,⟨nd,rfl⟩⟩))
   go_ret
   exact⟨by first|rfl|(simp;done)|(simp[*];done),by repeat(first|exact Drawn0.refl _|apply Drawn0.step)⟩
 ·rw[if_neg c2] at H
  have c2b0:decide ((l0.length:Int)≤20)=false:=decide_eq_false c2
  have c2b1:decide (l0.length≤20)=false:=decide_eq_false (by omega)
  clear c2
  obtain rfl:=Option.some.inj H
  go_enter Try.func47,Try.ntmps47
  go_wp2
  go_ret
  exact⟨by first|rfl|(simp;done)|(simp[*];done),by repeat(first|exact Drawn0.refl _|apply Drawn0.step)⟩
end Go.Proofs.Ytakocdkcfjkmdaa.Pr
