/- Printed texts, walks and plain facts that the law FnExactGoodAttack leans on, joined. -/
import Derived.Test.YtakocdkcfjkmdaaFullFnExactGoodAttackD
import Derived.Deep.QuietTactic
import Derived.BigQuiet
import Derived.Laws.Cover1
set_option maxHeartbeats 8000000
set_option maxRecDepth 100000
open List renaming map_toArray → jq0, map_cons → jq1, map_nil → jq2, length_drop → jq3, length_take → jq4, setIfInBounds_toArray → jq5, set_cons_zero → jq6, set_cons_succ → jq7
open Option renaming bind_eq_some_iff → jq8
open Bool renaming eq_false_iff → jq9, true → Z, false → Y
namespace Go.Proofs.Ytakocdkcfjkmdaa.Pr
open Go.RowKit Go.Proofs.YtakocdkcfjkmdaaW.PrintWords Go.Proofs.YtakocdkcfjkmdaaW.PrintLast Go.Proofs.YtakocdkcfjkmdaaW.PrintMore
attribute [local go_sem] max2_int min2_int max_two min_two max_three min_three max_four min_four
set_option linter.unusedVariables false
set_option linter.unusedSimpArgs false
def wz.j0:Nat→Bool→List (S77)→List Int→Int→Int→ByteArray→ByteArray→Bool→Bool→ByteArray→List Int→List ByteArray→List ByteArray→List Int→Option (Bool)
 | 0,_,_,_,_,_,_,_,_,_,_,_,_,_,_=>none
 | k + 1,x35,x102000,x102001,x102002,x102003,x102004,x102005,x102006,x102007,x117000,x117001,x117002,x117003,x117004=>if x35=true then(some false) else(if (x117001.length:Int)=0 then(some (x102005.toList == ([]:List UInt8))) else(if (x102005.size:Int) ≥ 1 then(if (x102005.size:Int)≤200 then((bytesOfS.f x102005).bind fun t119=>((wq.f t119).bind fun t122=>((vq.f t122 x117001).bind fun t125=>(some t125)))) else(some false)) else(some false)))
def wz.f (k:Nat) (l0_0:List (S77)) (l0_1:List Int) (a0_2:Int) (a0_3:Int) (a0_4:ByteArray) (a0_5:ByteArray) (a0_6:Bool) (a0_7:Bool):Option (Bool):=(vv.f k l0_0 l0_1 a0_2 a0_3 a0_4 a0_5 a0_6 a0_7).bind fun bt102=>((wk.f k l0_0 l0_1 a0_2 a0_3).bind fun t117=>(if t117=true then(if bt102.2.2.2.2.2=true then(if (bt102.2.2.1.length:Int)=0 then(wz.j0 k true l0_0 l0_1 a0_2 a0_3 a0_4 a0_5 a0_6 a0_7 bt102.1 bt102.2.1 bt102.2.2.1 bt102.2.2.2.1 bt102.2.2.2.2.1) else(if (bt102.2.2.2.1.length:Int)=0 then(wz.j0 k true l0_0 l0_1 a0_2 a0_3 a0_4 a0_5 a0_6 a0_7 bt102.1 bt102.2.1 bt102.2.2.1 bt102.2.2.2.1 bt102.2.2.2.2.1) else((qkv.f k bt102.2.2.2.2.1 1).bind fun t118=>(wz.j0 k (!t118) l0_0 l0_1 a0_2 a0_3 a0_4 a0_5 a0_6 a0_7 bt102.1 bt102.2.1 bt102.2.2.1 bt102.2.2.2.1 bt102.2.2.2.2.1)))) else(wz.j0 k true l0_0 l0_1 a0_2 a0_3 a0_4 a0_5 a0_6 a0_7 bt102.1 bt102.2.1 bt102.2.2.1 bt102.2.2.2.1 bt102.2.2.2.2.1)) else(wz.j0 k true l0_0 l0_1 a0_2 a0_3 a0_4 a0_5 a0_6 a0_7 bt102.1 bt102.2.1 bt102.2.2.1 bt102.2.2.2.1 bt102.2.2.2.2.1)))
def wz.T6:Bool × List (List Nat × List Nat):=(true,[([],[]),([0],[0]),([1],[1]),([2],[2]),([3],[3]),([4],[4]),([5,4],[4,5]),([6,4],[4,6]),([7,4],[4,7]),([4,8],[4,8]),([9,4],[9]),([10],[10]),([11,10],[10,11]),([12,10],[10,12]),([13,10,10],[10,13]),([10],[10]),([15,10],[10,15]),([14,16,14,10],[10,14,16]),([10,17],[10,17]),([18,17,0,1,2,3,4,5,6,7,8,9,10,11,12,13,14,15,16,17,18],[18])])
def wz.B6:List Nat:=[0,1,3,7,15,31,63,127,255,511,1023,2047,4095,8191,16383,2047,34815,131071,262143,524287]
theorem wz.tab6:rtab .any (opsOf Try.f32 6)=wz.T6:=by kernel_rfl
theorem wz.bits6:waitsOk wz.T6.2 wz.B6=true:=by kernel_rfl
theorem wz.calls (k:Nat) (A0_0:Option Addr) (c0_0:Nat) (l0_0:List (S77)) (A0_1:Option Addr) (c0_1:Nat) (l0_1:List Int) (a0_2:Int) (a0_3:Int) (a0_4:ByteArray) (a0_5:ByteArray) (a0_6:Bool) (a0_7:Bool) (r:Bool) (w:World) (hr0_0:Kd.C k77 w A0_0 l0_0.length l0_0) (hc0_0:l0_0.length≤c0_0) (hr0_1:Kd.C (Kd.int .u8) w A0_1 l0_1.length l0_1) (hc0_1:l0_1.length≤c0_1) (h:wz.f k l0_0 l0_1 a0_2 a0_3 a0_4 a0_5 a0_6 a0_7=some r) :
  Calls Try.prog 32 #[.agg #[.slice A0_0 l0_0.length c0_0,.slice A0_1 l0_1.length c0_1,.int .i64 a0_2,.int .i64 a0_3,.string a0_4,.string a0_5,.bool a0_6,.bool a0_7]] w fun e w'=>e=.returned (.bool r)∧Below w.heap.size w w':=by
 have hu62:=Try.underlying62
 have hu77:=Try.underlying77
 have hu45:=Try.underlying45
 have HR0_0:=X.mk hr0_0
 have HC0_0:=X.mk hc0_0
 clear hr0_0 hc0_0
 have HR0_1:=X.mk hr0_1
 have HC0_1:=X.mk hc0_1
 clear hr0_1 hc0_1
 have HB:=X.mk (Below.refl w.heap.size w)
 unfold wz.f at h
 have H:=h
 clear h
 replace H:=jq8.mp H
 obtain⟨⟨t102,t103,t106,t109,t112,t115⟩,A20,H⟩:=H
 try dsimp only at H
 have A2:=X.mk A20
 clear A20
 have HC3:=X.mk H
 clear H
 go_enter Try.func32,Try.ntmps32
 go_upto_region 2 with (first|((with_reducible refine gate_dst (N:=1) rfl ?_);(try (refine gate_guard (by rfl) ?_;dsimp only));refine box_event ?hg (N:=1) ?hd (cs:=#[.slice A0_0 l0_0.length c0_0,.slice A0_1 l0_1.length c0_1,.int .i64 a0_2,.int .i64 a0_3,.string a0_4,.string a0_5,.bool a0_6,.bool a0_7]) (t:=62) ?hr ?_;(case hd=>rfl);(case hg=>rfl);(case hr=>first|(go_simp;done)|(go_simp;rfl));intro gb101 hg w4 hbox hb;have BK101:=X.mk (hbox);have GW101:=X.mk ((by rw[hg];exact(qx (by solve_by_elim only[HB.out,O,U,L])):w.heap.size≤gb101));have GE101:=X.mk ((by rw[hg];exact(qx (by solve_by_elim only[HB.out,O,U,L])):w.heap.size≤gb101));replace HB:=X.mk (qw (by solve_by_elim only[HB.out,O,U,L]) hb);clear hb hbox hg;have hcz5_0:w4.cell? ⟨gb101,0,none⟩ = some (.slice A0_0 l0_0.length c0_0):=(I BK101.out 0).trans rfl;have hcz5_1:w4.cell? ⟨gb101,1,none⟩ = some (.slice A0_1 l0_1.length c0_1):=(I BK101.out 1).trans rfl;have hcz5_2:w4.cell? ⟨gb101,2,none⟩ = some (.int .i64 a0_2):=(I BK101.out 2).trans rfl;have hcz5_3:w4.cell? ⟨gb101,3,none⟩ = some (.int .i64 a0_3):=(I BK101.out 3).trans rfl;have hcz5_4:w4.cell? ⟨gb101,4,none⟩ = some (.string a0_4):=(I BK101.out 4).trans rfl;have hcz5_5:w4.cell? ⟨gb101,5,none⟩ = some (.string a0_5):=(I BK101.out 5).trans rfl;have hcz5_6:w4.cell? ⟨gb101,6,none⟩ = some (.bool a0_6):=(I BK101.out 6).trans rfl;have hcz5_7:w4.cell? ⟨gb101,7,none⟩ = some (.bool a0_7):=(I BK101.out 7).trans rfl;have hfz5_0:=J BK101.out 0;have hfz5_1:=J BK101.out 1;have hfz5_2:=J BK101.out 2;have hfz5_3:=J BK101.out 3;have hfz5_4:=J BK101.out 4;have hfz5_5:=J BK101.out 5;have hfz5_6:=J BK101.out 6;have hfz5_7:=J BK101.out 7)|((with_reducible refine zw (f:=62) rfl ?_);refine goesL_ (some 7) rfl rfl Try.func62 (by kernel_rfl) rfl #[.agg #[.slice A0_0 l0_0.length c0_0,.slice A0_1 l0_1.length c0_1,.int .i64 a0_2,.int .i64 a0_3,.string a0_4,.string a0_5,.bool a0_6,.bool a0_7]] rfl (by(try simp only[jq0,jq1,jq2]);first|done|rfl|(simp only[jq3,jq4];rfl)) ?_;(with_reducible refine(vv.calls k (fun k_=>k_ < w.heap.size) _ _ l0_0 _ _ l0_1 a0_2 a0_3 a0_4 a0_5 a0_6 a0_7 t102 t103 t106 t109 t112 t115 _ ?side1 ?side2 ?side3 A2.out).mono ?_);(case side1=>exact Kd.V_mk HC0_0.out (Kd.F_below (Kd.C_F k77_heap HR0_0.out) (by solve_by_elim (maxDepth:=20) only[HB.out,O,U,L,qq,GE101.out])));(case side2=>solve_by_elim only[(Kd.C_below HR0_1.out HB.out),Kd.C_alloc,Kd.C_drewN,Kd.C_drew]);(case side3=>exact HC0_1.out);rintro e w6 ⟨v104,v107,v110,v113,rfl,ho0,ho1,ho2,ho3,hb⟩;refine⟨_,rfl,?_⟩;have HO105:=X.mk (Kd.V_lower (Kd.V_mono (ok':=fun k_=>k_≠gb101) ho0 (fun k_ hk_=>Or.elim hk_ (fun hs_=>fun e_=>Nat.not_le.2 hs_ (by rw[e_];exact GW101.out)) (fun hn_=>(Kd.freshB (g:=gb101) (o:=.cells #[.slice A0_0 l0_0.length c0_0,.slice A0_1 l0_1.length c0_1,.int .i64 a0_2,.int .i64 a0_3,.string a0_4,.string a0_5,.bool a0_6,.bool a0_7] 62 (0,0)) (by solve_by_elim only[BK101.out,qj,qk,qz]) k_ hn_)))) (qx (by solve_by_elim (maxDepth:=20) only[HB.out,O,U,L,qq,GE101.out])));have HO108:=X.mk (Kd.V_lower (Kd.V_mono (ok':=fun k_=>k_≠gb101) ho1 (fun k_ hk_=>Or.elim hk_ (fun hs_=>fun e_=>Nat.not_le.2 hs_ (by rw[e_];exact GW101.out)) (fun hn_=>(Kd.freshB (g:=gb101) (o:=.cells #[.slice A0_0 l0_0.length c0_0,.slice A0_1 l0_1.length c0_1,.int .i64 a0_2,.int .i64 a0_3,.string a0_4,.string a0_5,.bool a0_6,.bool a0_7] 62 (0,0)) (by solve_by_elim only[BK101.out,qj,qk,qz]) k_ hn_)))) (qx (by solve_by_elim (maxDepth:=20) only[HB.out,O,U,L,qq,GE101.out])));have HO111:=X.mk (Kd.V_lower (Kd.V_mono (ok':=fun k_=>k_≠gb101) ho2 (fun k_ hk_=>Or.elim hk_ (fun hs_=>fun e_=>Nat.not_le.2 hs_ (by rw[e_];exact GW101.out)) (fun hn_=>(Kd.freshB (g:=gb101) (o:=.cells #[.slice A0_0 l0_0.length c0_0,.slice A0_1 l0_1.length c0_1,.int .i64 a0_2,.int .i64 a0_3,.string a0_4,.string a0_5,.bool a0_6,.bool a0_7] 62 (0,0)) (by solve_by_elim only[BK101.out,qj,qk,qz]) k_ hn_)))) (qx (by solve_by_elim (maxDepth:=20) only[HB.out,O,U,L,qq,GE101.out])));have HO114:=X.mk (Kd.V_lower (Kd.V_mono (ok':=fun k_=>k_≠gb101) ho3 (fun k_ hk_=>Or.elim hk_ (fun hs_=>fun e_=>Nat.not_le.2 hs_ (by rw[e_];exact GW101.out)) (fun hn_=>(Kd.freshB (g:=gb101) (o:=.cells #[.slice A0_0 l0_0.length c0_0,.slice A0_1 l0_1.length c0_1,.int .i64 a0_2,.int .i64 a0_3,.string a0_4,.string a0_5,.bool a0_6,.bool a0_7] 62 (0,0)) (by solve_by_elim only[BK101.out,qj,qk,qz]) k_ hn_)))) (qx (by solve_by_elim (maxDepth:=20) only[HB.out,O,U,L,qq,GE101.out])));replace BK101:=X.mk (kj (g:=gb101) (o:=.cells #[.slice A0_0 l0_0.length c0_0,.slice A0_1 l0_1.length c0_1,.int .i64 a0_2,.int .i64 a0_3,.string a0_4,.string a0_5,.bool a0_6,.bool a0_7] 62 (0,0)) (by solve_by_elim only[BK101.out,qj,qk,qz]) hb);replace HB:=X.mk (qw (by solve_by_elim (maxDepth:=20) only[HB.out,O,U,L,qq,GE101.out]) hb);(try clear hb ho0 ho1 ho2 ho3))|((with_reducible refine gate_dst (N:=3) rfl ?_);(try (refine gate_guard (by rfl) ?_;dsimp only));refine box_event ?hg (N:=3) ?hd (cs:=#[.string (⟨#[]⟩ : ByteArray),.slice none 0 0,.slice none 0 0,.slice none 0 0,.slice none 0 0]) (t:=77) ?hr ?_;(case hd=>rfl);(case hg=>rfl);(case hr=>first|(go_simp;done)|(go_simp;rfl));intro gb116 hg w7 hbox hb;replace HO105:=X.mk (Kd.V_below (Kd.V_elderB (by(with_reducible repeat(first|apply Kd.jx|apply Kd.jw|apply Kd.kz));exact HO105.out) gb116 (Nat.le_of_eq hg.symm)) hb);replace HO108:=X.mk (Kd.V_below (Kd.V_elderB (by(with_reducible repeat(first|apply Kd.jx|apply Kd.jw|apply Kd.kz));exact HO108.out) gb116 (Nat.le_of_eq hg.symm)) hb);replace HO111:=X.mk (Kd.V_below (Kd.V_elderB (by(with_reducible repeat(first|apply Kd.jx|apply Kd.jw|apply Kd.kz));exact HO111.out) gb116 (Nat.le_of_eq hg.symm)) hb);replace HO114:=X.mk (Kd.V_below (Kd.V_elderB (by(with_reducible repeat(first|apply Kd.jx|apply Kd.jw|apply Kd.kz));exact HO114.out) gb116 (Nat.le_of_eq hg.symm)) hb);have BK116:=X.mk (hbox);have GW116:=X.mk ((by rw[hg];exact(qx (by solve_by_elim (maxDepth:=20) only[HB.out,O,U,L,qq,GE101.out])):w.heap.size≤gb116));have GE116:=X.mk ((by rw[hg];exact(qx (by solve_by_elim (maxDepth:=20) only[HB.out,O,U,L,qq,GE101.out])):w.heap.size≤gb116));replace HB:=X.mk (qw (by solve_by_elim (maxDepth:=20) only[HB.out,O,U,L,qq,GE101.out]) hb);have NB101_116:=X.mk ((by rw[hg];exact Nat.ne_of_lt (blk_lt (g:=gb101) (o:=.cells #[.slice A0_0 l0_0.length c0_0,.slice A0_1 l0_1.length c0_1,.int .i64 a0_2,.int .i64 a0_3,.string a0_4,.string a0_5,.bool a0_6,.bool a0_7] 62 (0,0)) (by solve_by_elim only[BK101.out,qj,qk,qz])):gb101≠gb116));have NB116_101:=X.mk ((by rw[hg];exact Nat.ne_of_gt (blk_lt (g:=gb101) (o:=.cells #[.slice A0_0 l0_0.length c0_0,.slice A0_1 l0_1.length c0_1,.int .i64 a0_2,.int .i64 a0_3,.string a0_4,.string a0_5,.bool a0_6,.bool a0_7] 62 (0,0)) (by solve_by_elim only[BK101.out,qj,qk,qz])):gb116≠gb101));replace BK101:=X.mk (kj (g:=gb101) (o:=.cells #[.slice A0_0 l0_0.length c0_0,.slice A0_1 l0_1.length c0_1,.int .i64 a0_2,.int .i64 a0_3,.string a0_4,.string a0_5,.bool a0_6,.bool a0_7] 62 (0,0)) (by solve_by_elim only[BK101.out,qj,qk,qz]) hb);clear hb hbox hg;have hnb8:=NB116_101.out;have hnc8:=NB101_116.out;have hcz9_0:w7.cell? ⟨gb116,0,none⟩ = some (.string (⟨#[]⟩ : ByteArray)):=(I BK116.out 0).trans rfl;have hcz9_1:w7.cell? ⟨gb116,1,none⟩ = some (.slice none 0 0):=(I BK116.out 1).trans rfl;have hcz9_2:w7.cell? ⟨gb116,2,none⟩ = some (.slice none 0 0):=(I BK116.out 2).trans rfl;have hcz9_3:w7.cell? ⟨gb116,3,none⟩ = some (.slice none 0 0):=(I BK116.out 3).trans rfl;have hcz9_4:w7.cell? ⟨gb116,4,none⟩ = some (.slice none 0 0):=(I BK116.out 4).trans rfl;have hfz9_0:=J BK116.out 0;have hfz9_1:=J BK116.out 1;have hfz9_2:=J BK116.out 2;have hfz9_3:=J BK116.out 3;have hfz9_4:=J BK116.out 4;obtain⟨Ao10,co10,eo10⟩:=Kd.V_slice HO105.out;subst eo10;obtain⟨Ao11,co11,eo11⟩:=Kd.V_slice HO108.out;subst eo11;obtain⟨Ao12,co12,eo12⟩:=Kd.V_slice HO111.out;subst eo12;obtain⟨Ao13,co13,eo13⟩:=Kd.V_slice HO114.out;subst eo13))
 (try simp only[Act.put,jq5,jq6,jq7])
 go_cut [35] (fun v35 wc=>∃ (kq:Nat) (x35_2:Bool),v35=.bool x35_2∧X (wz.j0 kq x35_2 l0_0 l0_1 a0_2 a0_3 a0_4 a0_5 a0_6 a0_7 t102 t103 t106 t109 t112=some r)∧X (kq≤k)∧X (Kd.V (Kd.int .u8) 5 wc w.heap.size (fun k_=>k_≠gb101∧k_≠gb116) (.slice Ao10 t103.length co10) t103)∧X (Kd.V Kd.string 9 wc w.heap.size (fun k_=>k_≠gb101∧k_≠gb116) (.slice Ao11 t106.length co11) t106)∧X (Kd.V Kd.string 9 wc w.heap.size (fun k_=>k_≠gb101∧k_≠gb116) (.slice Ao12 t109.length co12) t109)∧X (Kd.V (Kd.int .i64) 3 wc w.heap.size (fun k_=>k_≠gb101∧k_≠gb116) (.slice Ao13 t112.length co13) t112)∧X (wc.heap[gb101]? = some (.cells #[(.slice A0_0 l0_0.length c0_0),(.slice A0_1 l0_1.length c0_1),.int .i64 a0_2,.int .i64 a0_3,.string a0_4,.string a0_5,.bool a0_6,.bool a0_7] 62 (0,0)))∧X (wc.heap[gb116]? = some (.cells #[.string t102,(.slice Ao10 t103.length co10),(.slice Ao11 t106.length co11),(.slice Ao12 t109.length co12),(.slice Ao13 t112.length co13)] 77 (0,0)))∧X (Below w.heap.size w wc))
 case first =>
  have H:=HC3.out
  clear HC3
  replace H:=jq8.mp H
  obtain⟨t117,A140,H⟩:=H
  try dsimp only at H
  have A14:=X.mk A140
  clear A140
  by_cases c15:t117=true
  ·subst c15
   have H1:(if t115=true then(if (t106.length:Int)=0 then(wz.j0 k true l0_0 l0_1 a0_2 a0_3 a0_4 a0_5 a0_6 a0_7 t102 t103 t106 t109 t112) else(if (t109.length:Int)=0 then(wz.j0 k true l0_0 l0_1 a0_2 a0_3 a0_4 a0_5 a0_6 a0_7 t102 t103 t106 t109 t112) else((qkv.f k t112 1).bind fun t118=>(wz.j0 k (!t118) l0_0 l0_1 a0_2 a0_3 a0_4 a0_5 a0_6 a0_7 t102 t103 t106 t109 t112)))) else(wz.j0 k true l0_0 l0_1 a0_2 a0_3 a0_4 a0_5 a0_6 a0_7 t102 t103 t106 t109 t112))=some r:=by rw[if_pos rfl] at H;exact H
   clear H
   have H:=H1
   clear H1
   by_cases c16:t115=true
   ·subst c16
    have H1:(if (t106.length:Int)=0 then(wz.j0 k true l0_0 l0_1 a0_2 a0_3 a0_4 a0_5 a0_6 a0_7 t102 t103 t106 t109 t112) else(if (t109.length:Int)=0 then(wz.j0 k true l0_0 l0_1 a0_2 a0_3 a0_4 a0_5 a0_6 a0_7 t102 t103 t106 t109 t112) else((qkv.f k t112 1).bind fun t118=>(wz.j0 k (!t118) l0_0 l0_1 a0_2 a0_3 a0_4 a0_5 a0_6 a0_7 t102 t103 t106 t109 t112))))=some r:=by rw[if_pos rfl] at H;exact H
    clear H
    have H:=H1
    clear H1
    by_cases c17:(t106.length:Int)=0
    ·rw[if_pos c17] at H
     have c17b0:((t106.length:Int) == 0)=true:=beq_iff_eq.mpr c17
     have c17b1:((t106.length:Int) != 0)=false:=bne_eq_false_iff_eq.mpr c17
     clear c17
     (first|rw[c17b0]|(simp only[i64_w,i32_w];rw[c17b0])|skip)
     have H':=X.mk H
     clear H
     have hnb18:=NB101_116.out
     have hnc18:=NB116_101.out
     have hcz19_0:w7.cell? ⟨gb101,0,none⟩ = some (.slice A0_0 l0_0.length c0_0):=(I BK101.out 0).trans rfl
     have hcz19_1:w7.cell? ⟨gb101,1,none⟩ = some (.slice A0_1 l0_1.length c0_1):=(I BK101.out 1).trans rfl
     have hcz19_2:w7.cell? ⟨gb101,2,none⟩ = some (.int .i64 a0_2):=(I BK101.out 2).trans rfl
     have hcz19_3:w7.cell? ⟨gb101,3,none⟩ = some (.int .i64 a0_3):=(I BK101.out 3).trans rfl
     have hcz19_4:w7.cell? ⟨gb101,4,none⟩ = some (.string a0_4):=(I BK101.out 4).trans rfl
     have hcz19_5:w7.cell? ⟨gb101,5,none⟩ = some (.string a0_5):=(I BK101.out 5).trans rfl
     have hcz19_6:w7.cell? ⟨gb101,6,none⟩ = some (.bool a0_6):=(I BK101.out 6).trans rfl
     have hcz19_7:w7.cell? ⟨gb101,7,none⟩ = some (.bool a0_7):=(I BK101.out 7).trans rfl
     have hfz19_0:=J BK101.out 0
     have hfz19_1:=J BK101.out 1
     have hfz19_2:=J BK101.out 2
     have hfz19_3:=J BK101.out 3
     have hfz19_4:=J BK101.out 4
     have hfz19_5:=J BK101.out 5
     have hfz19_6:=J BK101.out 6
     have hfz19_7:=J BK101.out 7
     go_wp2_with (first|((with_reducible refine zw (f:=21) rfl ?_);refine goesL_ (some 12) rfl rfl Try.func21 (by kernel_rfl) rfl #[.agg #[.slice A0_0 l0_0.length c0_0,.slice A0_1 l0_1.length c0_1,.int .i64 a0_2,.int .i64 a0_3]] rfl (by(try simp only[jq0,jq1,jq2]);first|done|rfl|(simp only[jq3,jq4];rfl)) ?_;(with_reducible refine(wk.calls k _ _ l0_0 _ _ l0_1 a0_2 a0_3 true _ ?side1 ?side2 ?side3 ?side4 A14.out).mono ?_);(case side1=>exact Kd.C_below HR0_0.out (by solve_by_elim (maxDepth:=20) only[HB.out,O,U,L,qq,GE101.out,qq,GE116.out]));(case side2=>exact HC0_0.out);(case side3=>exact Kd.C_below HR0_1.out (by solve_by_elim (maxDepth:=20) only[HB.out,O,U,L,qq,GE101.out,qq,GE116.out]));(case side4=>exact HC0_1.out);rintro e w20 ⟨rfl,hb⟩;refine⟨_,rfl,?_⟩;replace HO105:=X.mk (Kd.V_below (by(with_reducible repeat(first|apply Kd.jx|apply Kd.jw|apply Kd.kz));exact(Kd.V_mono (Kd.V_far (p:=⟨gb116,4,none⟩) (Kd.V_far (p:=⟨gb116,3,none⟩) (Kd.V_far (p:=⟨gb116,2,none⟩) (Kd.V_far (p:=⟨gb116,1,none⟩) (Kd.V_far (p:=⟨gb116,0,none⟩) (Kd.V_mono HO105.out (fun k_ hk=>(⟨hk,hk.2⟩ : _∧k_≠gb116))) (fun _ hk=>hk.2) (.string t102)) (fun _ hk=>hk.2) (.slice Ao10 t103.length co10)) (fun _ hk=>hk.2) (.slice Ao11 t106.length co11)) (fun _ hk=>hk.2) (.slice Ao12 t109.length co12)) (fun _ hk=>hk.2) (.slice Ao13 t112.length co13)) (fun _ h_=>h_.1))) hb);replace HO108:=X.mk (Kd.V_below (by(with_reducible repeat(first|apply Kd.jx|apply Kd.jw|apply Kd.kz));exact(Kd.V_mono (Kd.V_far (p:=⟨gb116,4,none⟩) (Kd.V_far (p:=⟨gb116,3,none⟩) (Kd.V_far (p:=⟨gb116,2,none⟩) (Kd.V_far (p:=⟨gb116,1,none⟩) (Kd.V_far (p:=⟨gb116,0,none⟩) (Kd.V_mono HO108.out (fun k_ hk=>(⟨hk,hk.2⟩ : _∧k_≠gb116))) (fun _ hk=>hk.2) (.string t102)) (fun _ hk=>hk.2) (.slice Ao10 t103.length co10)) (fun _ hk=>hk.2) (.slice Ao11 t106.length co11)) (fun _ hk=>hk.2) (.slice Ao12 t109.length co12)) (fun _ hk=>hk.2) (.slice Ao13 t112.length co13)) (fun _ h_=>h_.1))) hb);replace HO111:=X.mk (Kd.V_below (by(with_reducible repeat(first|apply Kd.jx|apply Kd.jw|apply Kd.kz));exact(Kd.V_mono (Kd.V_far (p:=⟨gb116,4,none⟩) (Kd.V_far (p:=⟨gb116,3,none⟩) (Kd.V_far (p:=⟨gb116,2,none⟩) (Kd.V_far (p:=⟨gb116,1,none⟩) (Kd.V_far (p:=⟨gb116,0,none⟩) (Kd.V_mono HO111.out (fun k_ hk=>(⟨hk,hk.2⟩ : _∧k_≠gb116))) (fun _ hk=>hk.2) (.string t102)) (fun _ hk=>hk.2) (.slice Ao10 t103.length co10)) (fun _ hk=>hk.2) (.slice Ao11 t106.length co11)) (fun _ hk=>hk.2) (.slice Ao12 t109.length co12)) (fun _ hk=>hk.2) (.slice Ao13 t112.length co13)) (fun _ h_=>h_.1))) hb);replace HO114:=X.mk (Kd.V_below (by(with_reducible repeat(first|apply Kd.jx|apply Kd.jw|apply Kd.kz));exact(Kd.V_mono (Kd.V_far (p:=⟨gb116,4,none⟩) (Kd.V_far (p:=⟨gb116,3,none⟩) (Kd.V_far (p:=⟨gb116,2,none⟩) (Kd.V_far (p:=⟨gb116,1,none⟩) (Kd.V_far (p:=⟨gb116,0,none⟩) (Kd.V_mono HO114.out (fun k_ hk=>(⟨hk,hk.2⟩ : _∧k_≠gb116))) (fun _ hk=>hk.2) (.string t102)) (fun _ hk=>hk.2) (.slice Ao10 t103.length co10)) (fun _ hk=>hk.2) (.slice Ao11 t106.length co11)) (fun _ hk=>hk.2) (.slice Ao12 t109.length co12)) (fun _ hk=>hk.2) (.slice Ao13 t112.length co13)) (fun _ h_=>h_.1))) hb);replace BK101:=X.mk (kj (g:=gb101) (o:=.cells #[.slice A0_0 l0_0.length c0_0,.slice A0_1 l0_1.length c0_1,.int .i64 a0_2,.int .i64 a0_3,.string a0_4,.string a0_5,.bool a0_6,.bool a0_7] 62 (0,0)) (by(with_reducible repeat(first|refine qj ?_ _|refine qk ?_|refine qz ?_ _));refine blk_far ?_ NB101_116.out _;(with_reducible repeat(first|refine qj ?_ _|refine qk ?_|refine qz ?_ _));refine blk_far ?_ NB101_116.out _;(with_reducible repeat(first|refine qj ?_ _|refine qk ?_|refine qz ?_ _));refine blk_far ?_ NB101_116.out _;(with_reducible repeat(first|refine qj ?_ _|refine qk ?_|refine qz ?_ _));refine blk_far ?_ NB101_116.out _;(with_reducible repeat(first|refine qj ?_ _|refine qk ?_|refine qz ?_ _));refine blk_far ?_ NB101_116.out _;(with_reducible repeat(first|refine qj ?_ _|refine qk ?_|refine qz ?_ _));exact BK101.out) hb);replace BK116:=X.mk (kj (g:=gb116) (o:=.cells #[.string t102,.slice Ao10 t103.length co10,.slice Ao11 t106.length co11,.slice Ao12 t109.length co12,.slice Ao13 t112.length co13] 77 (0,0)) (by(with_reducible repeat(first|refine qj ?_ _|refine qk ?_|refine qz ?_ _));refine blk_put (cs:=#[.string t102,.slice Ao10 t103.length co10,.slice Ao11 t106.length co11,.slice Ao12 t109.length co12,.slice none 0 0]) ?_ 4 _ rfl;(with_reducible repeat(first|refine qj ?_ _|refine qk ?_|refine qz ?_ _));refine blk_put (cs:=#[.string t102,.slice Ao10 t103.length co10,.slice Ao11 t106.length co11,.slice none 0 0,.slice none 0 0]) ?_ 3 _ rfl;(with_reducible repeat(first|refine qj ?_ _|refine qk ?_|refine qz ?_ _));refine blk_put (cs:=#[.string t102,.slice Ao10 t103.length co10,.slice none 0 0,.slice none 0 0,.slice none 0 0]) ?_ 2 _ rfl;(with_reducible repeat(first|refine qj ?_ _|refine qk ?_|refine qz ?_ _));refine blk_put (cs:=#[.string t102,.slice none 0 0,.slice none 0 0,.slice none 0 0,.slice none 0 0]) ?_ 1 _ rfl;(with_reducible repeat(first|refine qj ?_ _|refine qk ?_|refine qz ?_ _));refine blk_put (cs:=#[.string (⟨#[]⟩ : ByteArray),.slice none 0 0,.slice none 0 0,.slice none 0 0,.slice none 0 0]) ?_ 0 _ rfl;(with_reducible repeat(first|refine qj ?_ _|refine qk ?_|refine qz ?_ _));exact BK116.out) hb);replace HB:=X.mk (qw (by solve_by_elim (maxDepth:=20) only[HB.out,O,U,L,qq,GE101.out,qq,GE116.out]) hb);(try clear hb);have hcz21_0:w20.cell? ⟨gb116,0,none⟩ = some (.string t102):=(I BK116.out 0).trans rfl;have hcz21_1:w20.cell? ⟨gb116,1,none⟩ = some (.slice Ao10 t103.length co10):=(I BK116.out 1).trans rfl;have hcz21_2:w20.cell? ⟨gb116,2,none⟩ = some (.slice Ao11 t106.length co11):=(I BK116.out 2).trans rfl;have hcz21_3:w20.cell? ⟨gb116,3,none⟩ = some (.slice Ao12 t109.length co12):=(I BK116.out 3).trans rfl;have hcz21_4:w20.cell? ⟨gb116,4,none⟩ = some (.slice Ao13 t112.length co13):=(I BK116.out 4).trans rfl;have hfz21_0:=J BK116.out 0;have hfz21_1:=J BK116.out 1;have hfz21_2:=J BK116.out 2;have hfz21_3:=J BK116.out 3;have hfz21_4:=J BK116.out 4))
     go_meet
     case rel=>exact⟨_,(true),(by first|rfl|(simp;done)|(simp[*];done)),H',⟨by first|omega|exact Nat.le_refl _⟩,⟨by(with_reducible repeat(first|apply Kd.jx|apply Kd.jw|apply Kd.kz));exact HO105.out⟩,⟨by(with_reducible repeat(first|apply Kd.jx|apply Kd.jw|apply Kd.kz));exact HO108.out⟩,⟨by(with_reducible repeat(first|apply Kd.jx|apply Kd.jw|apply Kd.kz));exact HO111.out⟩,⟨by(with_reducible repeat(first|apply Kd.jx|apply Kd.jw|apply Kd.kz));exact HO114.out⟩,⟨by(with_reducible repeat(first|refine qj ?_ _|refine qk ?_|refine qz ?_ _));exact BK101.out⟩,⟨by(with_reducible repeat(first|refine qj ?_ _|refine qk ?_|refine qz ?_ _));exact BK116.out⟩,⟨by repeat(first|(with_reducible first|exact HB.out|apply O|apply U|apply L|refine qq ?_ GE101.out|refine qq ?_ GE116.out)|exact HB.out)⟩⟩
    ·rw[if_neg c17] at H
     have c17b0:((t106.length:Int) == 0)=false:=beq_eq_false_iff_ne.mpr c17
     have c17b1:((t106.length:Int) != 0)=true:=bne_iff_ne.mpr c17
     have c17b2:¬ (t106=[]):=fun h_=>c17 (by rw[h_];rfl)
     (first|rw[c17b0]|(simp only[i64_w,i32_w];rw[c17b0])|skip)
     by_cases c22:(t109.length:Int)=0
     ·rw[if_pos c22] at H
      have c22b0:((t109.length:Int) == 0)=true:=beq_iff_eq.mpr c22
      have c22b1:((t109.length:Int) != 0)=false:=bne_eq_false_iff_eq.mpr c22
      clear c22
      have H':=X.mk H
      clear H
      have hnb23:=NB101_116.out
      have hnc23:=NB116_101.out
      have hcz24_0:w7.cell? ⟨gb101,0,none⟩ = some (.slice A0_0 l0_0.length c0_0):=(I BK101.out 0).trans rfl
      have hcz24_1:w7.cell? ⟨gb101,1,none⟩ = some (.slice A0_1 l0_1.length c0_1):=(I BK101.out 1).trans rfl
      have hcz24_2:w7.cell? ⟨gb101,2,none⟩ = some (.int .i64 a0_2):=(I BK101.out 2).trans rfl
      have hcz24_3:w7.cell? ⟨gb101,3,none⟩ = some (.int .i64 a0_3):=(I BK101.out 3).trans rfl
      have hcz24_4:w7.cell? ⟨gb101,4,none⟩ = some (.string a0_4):=(I BK101.out 4).trans rfl
      have hcz24_5:w7.cell? ⟨gb101,5,none⟩ = some (.string a0_5):=(I BK101.out 5).trans rfl
      have hcz24_6:w7.cell? ⟨gb101,6,none⟩ = some (.bool a0_6):=(I BK101.out 6).trans rfl
      have hcz24_7:w7.cell? ⟨gb101,7,none⟩ = some (.bool a0_7):=(I BK101.out 7).trans rfl
      have hfz24_0:=J BK101.out 0
      have hfz24_1:=J BK101.out 1
      have hfz24_2:=J BK101.out 2
      have hfz24_3:=J BK101.out 3
      have hfz24_4:=J BK101.out 4
      have hfz24_5:=J BK101.out 5
      have hfz24_6:=J BK101.out 6
      have hfz24_7:=J BK101.out 7
      go_wp2_with (first|((with_reducible refine zw (f:=21) rfl ?_);refine goesL_ (some 12) rfl rfl Try.func21 (by kernel_rfl) rfl #[.agg #[.slice A0_0 l0_0.length c0_0,.slice A0_1 l0_1.length c0_1,.int .i64 a0_2,.int .i64 a0_3]] rfl (by(try simp only[jq0,jq1,jq2]);first|done|rfl|(simp only[jq3,jq4];rfl)) ?_;(with_reducible refine(wk.calls k _ _ l0_0 _ _ l0_1 a0_2 a0_3 true _ ?side1 ?side2 ?side3 ?side4 A14.out).mono ?_);(case side1=>exact Kd.C_below HR0_0.out (by solve_by_elim (maxDepth:=20) only[HB.out,O,U,L,qq,GE101.out,qq,GE116.out]));(case side2=>exact HC0_0.out);(case side3=>exact Kd.C_below HR0_1.out (by solve_by_elim (maxDepth:=20) only[HB.out,O,U,L,qq,GE101.out,qq,GE116.out]));(case side4=>exact HC0_1.out);rintro e w25 ⟨rfl,hb⟩;refine⟨_,rfl,?_⟩;replace HO105:=X.mk (Kd.V_below (by(with_reducible repeat(first|apply Kd.jx|apply Kd.jw|apply Kd.kz));exact(Kd.V_mono (Kd.V_far (p:=⟨gb116,4,none⟩) (Kd.V_far (p:=⟨gb116,3,none⟩) (Kd.V_far (p:=⟨gb116,2,none⟩) (Kd.V_far (p:=⟨gb116,1,none⟩) (Kd.V_far (p:=⟨gb116,0,none⟩) (Kd.V_mono HO105.out (fun k_ hk=>(⟨hk,hk.2⟩ : _∧k_≠gb116))) (fun _ hk=>hk.2) (.string t102)) (fun _ hk=>hk.2) (.slice Ao10 t103.length co10)) (fun _ hk=>hk.2) (.slice Ao11 t106.length co11)) (fun _ hk=>hk.2) (.slice Ao12 t109.length co12)) (fun _ hk=>hk.2) (.slice Ao13 t112.length co13)) (fun _ h_=>h_.1))) hb);replace HO108:=X.mk (Kd.V_below (by(with_reducible repeat(first|apply Kd.jx|apply Kd.jw|apply Kd.kz));exact(Kd.V_mono (Kd.V_far (p:=⟨gb116,4,none⟩) (Kd.V_far (p:=⟨gb116,3,none⟩) (Kd.V_far (p:=⟨gb116,2,none⟩) (Kd.V_far (p:=⟨gb116,1,none⟩) (Kd.V_far (p:=⟨gb116,0,none⟩) (Kd.V_mono HO108.out (fun k_ hk=>(⟨hk,hk.2⟩ : _∧k_≠gb116))) (fun _ hk=>hk.2) (.string t102)) (fun _ hk=>hk.2) (.slice Ao10 t103.length co10)) (fun _ hk=>hk.2) (.slice Ao11 t106.length co11)) (fun _ hk=>hk.2) (.slice Ao12 t109.length co12)) (fun _ hk=>hk.2) (.slice Ao13 t112.length co13)) (fun _ h_=>h_.1))) hb);replace HO111:=X.mk (Kd.V_below (by(with_reducible repeat(first|apply Kd.jx|apply Kd.jw|apply Kd.kz));exact(Kd.V_mono (Kd.V_far (p:=⟨gb116,4,none⟩) (Kd.V_far (p:=⟨gb116,3,none⟩) (Kd.V_far (p:=⟨gb116,2,none⟩) (Kd.V_far (p:=⟨gb116,1,none⟩) (Kd.V_far (p:=⟨gb116,0,none⟩) (Kd.V_mono HO111.out (fun k_ hk=>(⟨hk,hk.2⟩ : _∧k_≠gb116))) (fun _ hk=>hk.2) (.string t102)) (fun _ hk=>hk.2) (.slice Ao10 t103.length co10)) (fun _ hk=>hk.2) (.slice Ao11 t106.length co11)) (fun _ hk=>hk.2) (.slice Ao12 t109.length co12)) (fun _ hk=>hk.2) (.slice Ao13 t112.length co13)) (fun _ h_=>h_.1))) hb);replace HO114:=X.mk (Kd.V_below (by(with_reducible repeat(first|apply Kd.jx|apply Kd.jw|apply Kd.kz));exact(Kd.V_mono (Kd.V_far (p:=⟨gb116,4,none⟩) (Kd.V_far (p:=⟨gb116,3,none⟩) (Kd.V_far (p:=⟨gb116,2,none⟩) (Kd.V_far (p:=⟨gb116,1,none⟩) (Kd.V_far (p:=⟨gb116,0,none⟩) (Kd.V_mono HO114.out (fun k_ hk=>(⟨hk,hk.2⟩ : _∧k_≠gb116))) (fun _ hk=>hk.2) (.string t102)) (fun _ hk=>hk.2) (.slice Ao10 t103.length co10)) (fun _ hk=>hk.2) (.slice Ao11 t106.length co11)) (fun _ hk=>hk.2) (.slice Ao12 t109.length co12)) (fun _ hk=>hk.2) (.slice Ao13 t112.length co13)) (fun _ h_=>h_.1))) hb);replace BK101:=X.mk (kj (g:=gb101) (o:=.cells #[.slice A0_0 l0_0.length c0_0,.slice A0_1 l0_1.length c0_1,.int .i64 a0_2,.int .i64 a0_3,.string a0_4,.string a0_5,.bool a0_6,.bool a0_7] 62 (0,0)) (by(with_reducible repeat(first|refine qj ?_ _|refine qk ?_|refine qz ?_ _));refine blk_far ?_ NB101_116.out _;(with_reducible repeat(first|refine qj ?_ _|refine qk ?_|refine qz ?_ _));refine blk_far ?_ NB101_116.out _;(with_reducible repeat(first|refine qj ?_ _|refine qk ?_|refine qz ?_ _));refine blk_far ?_ NB101_116.out _;(with_reducible repeat(first|refine qj ?_ _|refine qk ?_|refine qz ?_ _));refine blk_far ?_ NB101_116.out _;(with_reducible repeat(first|refine qj ?_ _|refine qk ?_|refine qz ?_ _));refine blk_far ?_ NB101_116.out _;(with_reducible repeat(first|refine qj ?_ _|refine qk ?_|refine qz ?_ _));exact BK101.out) hb);replace BK116:=X.mk (kj (g:=gb116) (o:=.cells #[.string t102,.slice Ao10 t103.length co10,.slice Ao11 t106.length co11,.slice Ao12 t109.length co12,.slice Ao13 t112.length co13] 77 (0,0)) (by(with_reducible repeat(first|refine qj ?_ _|refine qk ?_|refine qz ?_ _));refine blk_put (cs:=#[.string t102,.slice Ao10 t103.length co10,.slice Ao11 t106.length co11,.slice Ao12 t109.length co12,.slice none 0 0]) ?_ 4 _ rfl;(with_reducible repeat(first|refine qj ?_ _|refine qk ?_|refine qz ?_ _));refine blk_put (cs:=#[.string t102,.slice Ao10 t103.length co10,.slice Ao11 t106.length co11,.slice none 0 0,.slice none 0 0]) ?_ 3 _ rfl;(with_reducible repeat(first|refine qj ?_ _|refine qk ?_|refine qz ?_ _));refine blk_put (cs:=#[.string t102,.slice Ao10 t103.length co10,.slice none 0 0,.slice none 0 0,.slice none 0 0]) ?_ 2 _ rfl;(with_reducible repeat(first|refine qj ?_ _|refine qk ?_|refine qz ?_ _));refine blk_put (cs:=#[.string t102,.slice none 0 0,.slice none 0 0,.slice none 0 0,.slice none 0 0]) ?_ 1 _ rfl;(with_reducible repeat(first|refine qj ?_ _|refine qk ?_|refine qz ?_ _));refine blk_put (cs:=#[.string (⟨#[]⟩ : ByteArray),.slice none 0 0,.slice none 0 0,.slice none 0 0,.slice none 0 0]) ?_ 0 _ rfl;(with_reducible repeat(first|refine qj ?_ _|refine qk ?_|refine qz ?_ _));exact BK116.out) hb);replace HB:=X.mk (qw (by solve_by_elim (maxDepth:=20) only[HB.out,O,U,L,qq,GE101.out,qq,GE116.out]) hb);(try clear hb);have hcz26_0:w25.cell? ⟨gb116,0,none⟩ = some (.string t102):=(I BK116.out 0).trans rfl;have hcz26_1:w25.cell? ⟨gb116,1,none⟩ = some (.slice Ao10 t103.length co10):=(I BK116.out 1).trans rfl;have hcz26_2:w25.cell? ⟨gb116,2,none⟩ = some (.slice Ao11 t106.length co11):=(I BK116.out 2).trans rfl;have hcz26_3:w25.cell? ⟨gb116,3,none⟩ = some (.slice Ao12 t109.length co12):=(I BK116.out 3).trans rfl;have hcz26_4:w25.cell? ⟨gb116,4,none⟩ = some (.slice Ao13 t112.length co13):=(I BK116.out 4).trans rfl;have hfz26_0:=J BK116.out 0;have hfz26_1:=J BK116.out 1;have hfz26_2:=J BK116.out 2;have hfz26_3:=J BK116.out 3;have hfz26_4:=J BK116.out 4))
      go_meet
      case rel=>exact⟨_,(true),(by first|rfl|(simp;done)|(simp[*];done)),H',⟨by first|omega|exact Nat.le_refl _⟩,⟨by(with_reducible repeat(first|apply Kd.jx|apply Kd.jw|apply Kd.kz));exact HO105.out⟩,⟨by(with_reducible repeat(first|apply Kd.jx|apply Kd.jw|apply Kd.kz));exact HO108.out⟩,⟨by(with_reducible repeat(first|apply Kd.jx|apply Kd.jw|apply Kd.kz));exact HO111.out⟩,⟨by(with_reducible repeat(first|apply Kd.jx|apply Kd.jw|apply Kd.kz));exact HO114.out⟩,⟨by(with_reducible repeat(first|refine qj ?_ _|refine qk ?_|refine qz ?_ _));exact BK101.out⟩,⟨by(with_reducible repeat(first|refine qj ?_ _|refine qk ?_|refine qz ?_ _));exact BK116.out⟩,⟨by repeat(first|(with_reducible first|exact HB.out|apply O|apply U|apply L|refine qq ?_ GE101.out|refine qq ?_ GE116.out)|exact HB.out)⟩⟩
     ·rw[if_neg c22] at H
      have c22b0:((t109.length:Int) == 0)=false:=beq_eq_false_iff_ne.mpr c22
      have c22b1:((t109.length:Int) != 0)=true:=bne_iff_ne.mpr c22
      have c22b2:¬ (t109=[]):=fun h_=>c22 (by rw[h_];rfl)
      replace H:=jq8.mp H
      obtain⟨t118,A270,H⟩:=H
      try dsimp only at H
      have A27:=X.mk A270
      clear A270
      have H':=X.mk H
      clear H
      have hnb28:=NB101_116.out
      have hnc28:=NB116_101.out
      have hcz29_0:w7.cell? ⟨gb101,0,none⟩ = some (.slice A0_0 l0_0.length c0_0):=(I BK101.out 0).trans rfl
      have hcz29_1:w7.cell? ⟨gb101,1,none⟩ = some (.slice A0_1 l0_1.length c0_1):=(I BK101.out 1).trans rfl
      have hcz29_2:w7.cell? ⟨gb101,2,none⟩ = some (.int .i64 a0_2):=(I BK101.out 2).trans rfl
      have hcz29_3:w7.cell? ⟨gb101,3,none⟩ = some (.int .i64 a0_3):=(I BK101.out 3).trans rfl
      have hcz29_4:w7.cell? ⟨gb101,4,none⟩ = some (.string a0_4):=(I BK101.out 4).trans rfl
      have hcz29_5:w7.cell? ⟨gb101,5,none⟩ = some (.string a0_5):=(I BK101.out 5).trans rfl
      have hcz29_6:w7.cell? ⟨gb101,6,none⟩ = some (.bool a0_6):=(I BK101.out 6).trans rfl
      have hcz29_7:w7.cell? ⟨gb101,7,none⟩ = some (.bool a0_7):=(I BK101.out 7).trans rfl
      have hfz29_0:=J BK101.out 0
      have hfz29_1:=J BK101.out 1
      have hfz29_2:=J BK101.out 2
      have hfz29_3:=J BK101.out 3
      have hfz29_4:=J BK101.out 4
      have hfz29_5:=J BK101.out 5
      have hfz29_6:=J BK101.out 6
      have hfz29_7:=J BK101.out 7
      go_wp2_with (first|((with_reducible refine zw (f:=21) rfl ?_);refine goesL_ (some 12) rfl rfl Try.func21 (by kernel_rfl) rfl #[.agg #[.slice A0_0 l0_0.length c0_0,.slice A0_1 l0_1.length c0_1,.int .i64 a0_2,.int .i64 a0_3]] rfl (by(try simp only[jq0,jq1,jq2]);first|done|rfl|(simp only[jq3,jq4];rfl)) ?_;(with_reducible refine(wk.calls k _ _ l0_0 _ _ l0_1 a0_2 a0_3 true _ ?side1 ?side2 ?side3 ?side4 A14.out).mono ?_);(case side1=>exact Kd.C_below HR0_0.out (by solve_by_elim (maxDepth:=20) only[HB.out,O,U,L,qq,GE101.out,qq,GE116.out]));(case side2=>exact HC0_0.out);(case side3=>exact Kd.C_below HR0_1.out (by solve_by_elim (maxDepth:=20) only[HB.out,O,U,L,qq,GE101.out,qq,GE116.out]));(case side4=>exact HC0_1.out);rintro e w30 ⟨rfl,hb⟩;refine⟨_,rfl,?_⟩;replace HO105:=X.mk (Kd.V_below (by(with_reducible repeat(first|apply Kd.jx|apply Kd.jw|apply Kd.kz));exact(Kd.V_mono (Kd.V_far (p:=⟨gb116,4,none⟩) (Kd.V_far (p:=⟨gb116,3,none⟩) (Kd.V_far (p:=⟨gb116,2,none⟩) (Kd.V_far (p:=⟨gb116,1,none⟩) (Kd.V_far (p:=⟨gb116,0,none⟩) (Kd.V_mono HO105.out (fun k_ hk=>(⟨hk,hk.2⟩ : _∧k_≠gb116))) (fun _ hk=>hk.2) (.string t102)) (fun _ hk=>hk.2) (.slice Ao10 t103.length co10)) (fun _ hk=>hk.2) (.slice Ao11 t106.length co11)) (fun _ hk=>hk.2) (.slice Ao12 t109.length co12)) (fun _ hk=>hk.2) (.slice Ao13 t112.length co13)) (fun _ h_=>h_.1))) hb);replace HO108:=X.mk (Kd.V_below (by(with_reducible repeat(first|apply Kd.jx|apply Kd.jw|apply Kd.kz));exact(Kd.V_mono (Kd.V_far (p:=⟨gb116,4,none⟩) (Kd.V_far (p:=⟨gb116,3,none⟩) (Kd.V_far (p:=⟨gb116,2,none⟩) (Kd.V_far (p:=⟨gb116,1,none⟩) (Kd.V_far (p:=⟨gb116,0,none⟩) (Kd.V_mono HO108.out (fun k_ hk=>(⟨hk,hk.2⟩ : _∧k_≠gb116))) (fun _ hk=>hk.2) (.string t102)) (fun _ hk=>hk.2) (.slice Ao10 t103.length co10)) (fun _ hk=>hk.2) (.slice Ao11 t106.length co11)) (fun _ hk=>hk.2) (.slice Ao12 t109.length co12)) (fun _ hk=>hk.2) (.slice Ao13 t112.length co13)) (fun _ h_=>h_.1))) hb);replace HO111:=X.mk (Kd.V_below (by(with_reducible repeat(first|apply Kd.jx|apply Kd.jw|apply Kd.kz));exact(Kd.V_mono (Kd.V_far (p:=⟨gb116,4,none⟩) (Kd.V_far (p:=⟨gb116,3,none⟩) (Kd.V_far (p:=⟨gb116,2,none⟩) (Kd.V_far (p:=⟨gb116,1,none⟩) (Kd.V_far (p:=⟨gb116,0,none⟩) (Kd.V_mono HO111.out (fun k_ hk=>(⟨hk,hk.2⟩ : _∧k_≠gb116))) (fun _ hk=>hk.2) (.string t102)) (fun _ hk=>hk.2) (.slice Ao10 t103.length co10)) (fun _ hk=>hk.2) (.slice Ao11 t106.length co11)) (fun _ hk=>hk.2) (.slice Ao12 t109.length co12)) (fun _ hk=>hk.2) (.slice Ao13 t112.length co13)) (fun _ h_=>h_.1))) hb);replace HO114:=X.mk (Kd.V_below (by(with_reducible repeat(first|apply Kd.jx|apply Kd.jw|apply Kd.kz));exact(Kd.V_mono (Kd.V_far (p:=⟨gb116,4,none⟩) (Kd.V_far (p:=⟨gb116,3,none⟩) (Kd.V_far (p:=⟨gb116,2,none⟩) (Kd.V_far (p:=⟨gb116,1,none⟩) (Kd.V_far (p:=⟨gb116,0,none⟩) (Kd.V_mono HO114.out (fun k_ hk=>(⟨hk,hk.2⟩ : _∧k_≠gb116))) (fun _ hk=>hk.2) (.string t102)) (fun _ hk=>hk.2) (.slice Ao10 t103.length co10)) (fun _ hk=>hk.2) (.slice Ao11 t106.length co11)) (fun _ hk=>hk.2) (.slice Ao12 t109.length co12)) (fun _ hk=>hk.2) (.slice Ao13 t112.length co13)) (fun _ h_=>h_.1))) hb);replace BK101:=X.mk (kj (g:=gb101) (o:=.cells #[.slice A0_0 l0_0.length c0_0,.slice A0_1 l0_1.length c0_1,.int .i64 a0_2,.int .i64 a0_3,.string a0_4,.string a0_5,.bool a0_6,.bool a0_7] 62 (0,0)) (by(with_reducible repeat(first|refine qj ?_ _|refine qk ?_|refine qz ?_ _));refine blk_far ?_ NB101_116.out _;(with_reducible repeat(first|refine qj ?_ _|refine qk ?_|refine qz ?_ _));refine blk_far ?_ NB101_116.out _;(with_reducible repeat(first|refine qj ?_ _|refine qk ?_|refine qz ?_ _));refine blk_far ?_ NB101_116.out _;(with_reducible repeat(first|refine qj ?_ _|refine qk ?_|refine qz ?_ _));refine blk_far ?_ NB101_116.out _;(with_reducible repeat(first|refine qj ?_ _|refine qk ?_|refine qz ?_ _));refine blk_far ?_ NB101_116.out _;(with_reducible repeat(first|refine qj ?_ _|refine qk ?_|refine qz ?_ _));exact BK101.out) hb);replace BK116:=X.mk (kj (g:=gb116) (o:=.cells #[.string t102,.slice Ao10 t103.length co10,.slice Ao11 t106.length co11,.slice Ao12 t109.length co12,.slice Ao13 t112.length co13] 77 (0,0)) (by(with_reducible repeat(first|refine qj ?_ _|refine qk ?_|refine qz ?_ _));refine blk_put (cs:=#[.string t102,.slice Ao10 t103.length co10,.slice Ao11 t106.length co11,.slice Ao12 t109.length co12,.slice none 0 0]) ?_ 4 _ rfl;(with_reducible repeat(first|refine qj ?_ _|refine qk ?_|refine qz ?_ _));refine blk_put (cs:=#[.string t102,.slice Ao10 t103.length co10,.slice Ao11 t106.length co11,.slice none 0 0,.slice none 0 0]) ?_ 3 _ rfl;(with_reducible repeat(first|refine qj ?_ _|refine qk ?_|refine qz ?_ _));refine blk_put (cs:=#[.string t102,.slice Ao10 t103.length co10,.slice none 0 0,.slice none 0 0,.slice none 0 0]) ?_ 2 _ rfl;(with_reducible repeat(first|refine qj ?_ _|refine qk ?_|refine qz ?_ _));refine blk_put (cs:=#[.string t102,.slice none 0 0,.slice none 0 0,.slice none 0 0,.slice none 0 0]) ?_ 1 _ rfl;(with_reducible repeat(first|refine qj ?_ _|refine qk ?_|refine qz ?_ _));refine blk_put (cs:=#[.string (⟨#[]⟩ : ByteArray),.slice none 0 0,.slice none 0 0,.slice none 0 0,.slice none 0 0]) ?_ 0 _ rfl;(with_reducible repeat(first|refine qj ?_ _|refine qk ?_|refine qz ?_ _));exact BK116.out) hb);replace HB:=X.mk (qw (by solve_by_elim (maxDepth:=20) only[HB.out,O,U,L,qq,GE101.out,qq,GE116.out]) hb);(try clear hb);have hcz31_0:w30.cell? ⟨gb116,0,none⟩ = some (.string t102):=(I BK116.out 0).trans rfl;have hcz31_1:w30.cell? ⟨gb116,1,none⟩ = some (.slice Ao10 t103.length co10):=(I BK116.out 1).trans rfl;have hcz31_2:w30.cell? ⟨gb116,2,none⟩ = some (.slice Ao11 t106.length co11):=(I BK116.out 2).trans rfl;have hcz31_3:w30.cell? ⟨gb116,3,none⟩ = some (.slice Ao12 t109.length co12):=(I BK116.out 3).trans rfl;have hcz31_4:w30.cell? ⟨gb116,4,none⟩ = some (.slice Ao13 t112.length co13):=(I BK116.out 4).trans rfl;have hfz31_0:=J BK116.out 0;have hfz31_1:=J BK116.out 1;have hfz31_2:=J BK116.out 2;have hfz31_3:=J BK116.out 3;have hfz31_4:=J BK116.out 4)|(go_at_call 63;(with_reducible refine(qkv.calls k _ _ t112 1 t118 _ ?side1 ?side2 A27.out).mono ?_);(case side1=>solve_by_elim only[(Kd.V_reads' HO114.out).2.2,Kd.C_alloc,Kd.C_drewN,Kd.C_drew]);(case side2=>exact(Kd.V_reads' HO114.out).2.1);rintro e w' ⟨rfl,⟨nd,rfl⟩⟩))
      go_meet
      case rel=>exact⟨_,(!t118),(by first|rfl|(simp;done)|(simp[*];done)),H',⟨by first|omega|exact Nat.le_refl _⟩,⟨by(with_reducible repeat(first|apply Kd.jx|apply Kd.jw|apply Kd.kz));exact HO105.out⟩,⟨by(with_reducible repeat(first|apply Kd.jx|apply Kd.jw|apply Kd.kz));exact HO108.out⟩,⟨by(with_reducible repeat(first|apply Kd.jx|apply Kd.jw|apply Kd.kz));exact HO111.out⟩,⟨by(with_reducible repeat(first|apply Kd.jx|apply Kd.jw|apply Kd.kz));exact HO114.out⟩,⟨by(with_reducible repeat(first|refine qj ?_ _|refine qk ?_|refine qz ?_ _));exact BK101.out⟩,⟨by(with_reducible repeat(first|refine qj ?_ _|refine qk ?_|refine qz ?_ _));exact BK116.out⟩,⟨by repeat(first|(with_reducible first|exact HB.out|apply O|apply U|apply L|refine qq ?_ GE101.out|refine qq ?_ GE116.out)|exact HB.out)⟩⟩
   ·replace c16:=jq9.mpr c16
    subst c16
    have H1:(wz.j0 k true l0_0 l0_1 a0_2 a0_3 a0_4 a0_5 a0_6 a0_7 t102 t103 t106 t109 t112)=some r:=by rw[if_neg (show ¬ (false=true) by decide)] at H;exact H
    clear H
    have H:=H1
    clear H1
    have H':=X.mk H
    clear H
    have hnb32:=NB101_116.out
    have hnc32:=NB116_101.out
    have hcz33_0:w7.cell? ⟨gb101,0,none⟩ = some (.slice A0_0 l0_0.length c0_0):=(I BK101.out 0).trans rfl
    have hcz33_1:w7.cell? ⟨gb101,1,none⟩ = some (.slice A0_1 l0_1.length c0_1):=(I BK101.out 1).trans rfl
    have hcz33_2:w7.cell? ⟨gb101,2,none⟩ = some (.int .i64 a0_2):=(I BK101.out 2).trans rfl
    have hcz33_3:w7.cell? ⟨gb101,3,none⟩ = some (.int .i64 a0_3):=(I BK101.out 3).trans rfl
    have hcz33_4:w7.cell? ⟨gb101,4,none⟩ = some (.string a0_4):=(I BK101.out 4).trans rfl
    have hcz33_5:w7.cell? ⟨gb101,5,none⟩ = some (.string a0_5):=(I BK101.out 5).trans rfl
    have hcz33_6:w7.cell? ⟨gb101,6,none⟩ = some (.bool a0_6):=(I BK101.out 6).trans rfl
    have hcz33_7:w7.cell? ⟨gb101,7,none⟩ = some (.bool a0_7):=(I BK101.out 7).trans rfl
    have hfz33_0:=J BK101.out 0
    have hfz33_1:=J BK101.out 1
    have hfz33_2:=J BK101.out 2
    have hfz33_3:=J BK101.out 3
    have hfz33_4:=J BK101.out 4
    have hfz33_5:=J BK101.out 5
    have hfz33_6:=J BK101.out 6
    have hfz33_7:=J BK101.out 7
    go_wp2_with (first|((with_reducible refine zw (f:=21) rfl ?_);refine goesL_ (some 12) rfl rfl Try.func21 (by kernel_rfl) rfl #[.agg #[.slice A0_0 l0_0.length c0_0,.slice A0_1 l0_1.length c0_1,.int .i64 a0_2,.int .i64 a0_3]] rfl (by(try simp only[jq0,jq1,jq2]);first|done|rfl|(simp only[jq3,jq4];rfl)) ?_;(with_reducible refine(wk.calls k _ _ l0_0 _ _ l0_1 a0_2 a0_3 true _ ?side1 ?side2 ?side3 ?side4 A14.out).mono ?_);(case side1=>exact Kd.C_below HR0_0.out (by solve_by_elim (maxDepth:=20) only[HB.out,O,U,L,qq,GE101.out,qq,GE116.out]));(case side2=>exact HC0_0.out);(case side3=>exact Kd.C_below HR0_1.out (by solve_by_elim (maxDepth:=20) only[HB.out,O,U,L,qq,GE101.out,qq,GE116.out]));(case side4=>exact HC0_1.out);rintro e w34 ⟨rfl,hb⟩;refine⟨_,rfl,?_⟩;replace HO105:=X.mk (Kd.V_below (by(with_reducible repeat(first|apply Kd.jx|apply Kd.jw|apply Kd.kz));exact(Kd.V_mono (Kd.V_far (p:=⟨gb116,4,none⟩) (Kd.V_far (p:=⟨gb116,3,none⟩) (Kd.V_far (p:=⟨gb116,2,none⟩) (Kd.V_far (p:=⟨gb116,1,none⟩) (Kd.V_far (p:=⟨gb116,0,none⟩) (Kd.V_mono HO105.out (fun k_ hk=>(⟨hk,hk.2⟩ : _∧k_≠gb116))) (fun _ hk=>hk.2) (.string t102)) (fun _ hk=>hk.2) (.slice Ao10 t103.length co10)) (fun _ hk=>hk.2) (.slice Ao11 t106.length co11)) (fun _ hk=>hk.2) (.slice Ao12 t109.length co12)) (fun _ hk=>hk.2) (.slice Ao13 t112.length co13)) (fun _ h_=>h_.1))) hb);replace HO108:=X.mk (Kd.V_below (by(with_reducible repeat(first|apply Kd.jx|apply Kd.jw|apply Kd.kz));exact(Kd.V_mono (Kd.V_far (p:=⟨gb116,4,none⟩) (Kd.V_far (p:=⟨gb116,3,none⟩) (Kd.V_far (p:=⟨gb116,2,none⟩) (Kd.V_far (p:=⟨gb116,1,none⟩) (Kd.V_far (p:=⟨gb116,0,none⟩) (Kd.V_mono HO108.out (fun k_ hk=>(⟨hk,hk.2⟩ : _∧k_≠gb116))) (fun _ hk=>hk.2) (.string t102)) (fun _ hk=>hk.2) (.slice Ao10 t103.length co10)) (fun _ hk=>hk.2) (.slice Ao11 t106.length co11)) (fun _ hk=>hk.2) (.slice Ao12 t109.length co12)) (fun _ hk=>hk.2) (.slice Ao13 t112.length co13)) (fun _ h_=>h_.1))) hb);replace HO111:=X.mk (Kd.V_below (by(with_reducible repeat(first|apply Kd.jx|apply Kd.jw|apply Kd.kz));exact(Kd.V_mono (Kd.V_far (p:=⟨gb116,4,none⟩) (Kd.V_far (p:=⟨gb116,3,none⟩) (Kd.V_far (p:=⟨gb116,2,none⟩) (Kd.V_far (p:=⟨gb116,1,none⟩) (Kd.V_far (p:=⟨gb116,0,none⟩) (Kd.V_mono HO111.out (fun k_ hk=>(⟨hk,hk.2⟩ : _∧k_≠gb116))) (fun _ hk=>hk.2) (.string t102)) (fun _ hk=>hk.2) (.slice Ao10 t103.length co10)) (fun _ hk=>hk.2) (.slice Ao11 t106.length co11)) (fun _ hk=>hk.2) (.slice Ao12 t109.length co12)) (fun _ hk=>hk.2) (.slice Ao13 t112.length co13)) (fun _ h_=>h_.1))) hb);replace HO114:=X.mk (Kd.V_below (by(with_reducible repeat(first|apply Kd.jx|apply Kd.jw|apply Kd.kz));exact(Kd.V_mono (Kd.V_far (p:=⟨gb116,4,none⟩) (Kd.V_far (p:=⟨gb116,3,none⟩) (Kd.V_far (p:=⟨gb116,2,none⟩) (Kd.V_far (p:=⟨gb116,1,none⟩) (Kd.V_far (p:=⟨gb116,0,none⟩) (Kd.V_mono HO114.out (fun k_ hk=>(⟨hk,hk.2⟩ : _∧k_≠gb116))) (fun _ hk=>hk.2) (.string t102)) (fun _ hk=>hk.2) (.slice Ao10 t103.length co10)) (fun _ hk=>hk.2) (.slice Ao11 t106.length co11)) (fun _ hk=>hk.2) (.slice Ao12 t109.length co12)) (fun _ hk=>hk.2) (.slice Ao13 t112.length co13)) (fun _ h_=>h_.1))) hb);replace BK101:=X.mk (kj (g:=gb101) (o:=.cells #[.slice A0_0 l0_0.length c0_0,.slice A0_1 l0_1.length c0_1,.int .i64 a0_2,.int .i64 a0_3,.string a0_4,.string a0_5,.bool a0_6,.bool a0_7] 62 (0,0)) (by(with_reducible repeat(first|refine qj ?_ _|refine qk ?_|refine qz ?_ _));refine blk_far ?_ NB101_116.out _;(with_reducible repeat(first|refine qj ?_ _|refine qk ?_|refine qz ?_ _));refine blk_far ?_ NB101_116.out _;(with_reducible repeat(first|refine qj ?_ _|refine qk ?_|refine qz ?_ _));refine blk_far ?_ NB101_116.out _;(with_reducible repeat(first|refine qj ?_ _|refine qk ?_|refine qz ?_ _));refine blk_far ?_ NB101_116.out _;(with_reducible repeat(first|refine qj ?_ _|refine qk ?_|refine qz ?_ _));refine blk_far ?_ NB101_116.out _;(with_reducible repeat(first|refine qj ?_ _|refine qk ?_|refine qz ?_ _));exact BK101.out) hb);replace BK116:=X.mk (kj (g:=gb116) (o:=.cells #[.string t102,.slice Ao10 t103.length co10,.slice Ao11 t106.length co11,.slice Ao12 t109.length co12,.slice Ao13 t112.length co13] 77 (0,0)) (by(with_reducible repeat(first|refine qj ?_ _|refine qk ?_|refine qz ?_ _));refine blk_put (cs:=#[.string t102,.slice Ao10 t103.length co10,.slice Ao11 t106.length co11,.slice Ao12 t109.length co12,.slice none 0 0]) ?_ 4 _ rfl;(with_reducible repeat(first|refine qj ?_ _|refine qk ?_|refine qz ?_ _));refine blk_put (cs:=#[.string t102,.slice Ao10 t103.length co10,.slice Ao11 t106.length co11,.slice none 0 0,.slice none 0 0]) ?_ 3 _ rfl;(with_reducible repeat(first|refine qj ?_ _|refine qk ?_|refine qz ?_ _));refine blk_put (cs:=#[.string t102,.slice Ao10 t103.length co10,.slice none 0 0,.slice none 0 0,.slice none 0 0]) ?_ 2 _ rfl;(with_reducible repeat(first|refine qj ?_ _|refine qk ?_|refine qz ?_ _));refine blk_put (cs:=#[.string t102,.slice none 0 0,.slice none 0 0,.slice none 0 0,.slice none 0 0]) ?_ 1 _ rfl;(with_reducible repeat(first|refine qj ?_ _|refine qk ?_|refine qz ?_ _));refine blk_put (cs:=#[.string (⟨#[]⟩ : ByteArray),.slice none 0 0,.slice none 0 0,.slice none 0 0,.slice none 0 0]) ?_ 0 _ rfl;(with_reducible repeat(first|refine qj ?_ _|refine qk ?_|refine qz ?_ _));exact BK116.out) hb);replace HB:=X.mk (qw (by solve_by_elim (maxDepth:=20) only[HB.out,O,U,L,qq,GE101.out,qq,GE116.out]) hb);(try clear hb)))
    go_meet
    case rel=>exact⟨_,(true),(by first|rfl|(simp;done)|(simp[*];done)),H',⟨by first|omega|exact Nat.le_refl _⟩,⟨by(with_reducible repeat(first|apply Kd.jx|apply Kd.jw|apply Kd.kz));exact HO105.out⟩,⟨by(with_reducible repeat(first|apply Kd.jx|apply Kd.jw|apply Kd.kz));exact HO108.out⟩,⟨by(with_reducible repeat(first|apply Kd.jx|apply Kd.jw|apply Kd.kz));exact HO111.out⟩,⟨by(with_reducible repeat(first|apply Kd.jx|apply Kd.jw|apply Kd.kz));exact HO114.out⟩,⟨by(with_reducible repeat(first|refine qj ?_ _|refine qk ?_|refine qz ?_ _));exact BK101.out⟩,⟨by(with_reducible repeat(first|refine qj ?_ _|refine qk ?_|refine qz ?_ _));exact BK116.out⟩,⟨by repeat(first|(with_reducible first|exact HB.out|apply O|apply U|apply L|refine qq ?_ GE101.out|refine qq ?_ GE116.out)|exact HB.out)⟩⟩
  ·replace c15:=jq9.mpr c15
   subst c15
   have H1:(wz.j0 k true l0_0 l0_1 a0_2 a0_3 a0_4 a0_5 a0_6 a0_7 t102 t103 t106 t109 t112)=some r:=by rw[if_neg (show ¬ (false=true) by decide)] at H;exact H
   clear H
   have H:=H1
   clear H1
   have H':=X.mk H
   clear H
   have hnb35:=NB101_116.out
   have hnc35:=NB116_101.out
   have hcz36_0:w7.cell? ⟨gb101,0,none⟩ = some (.slice A0_0 l0_0.length c0_0):=(I BK101.out 0).trans rfl
   have hcz36_1:w7.cell? ⟨gb101,1,none⟩ = some (.slice A0_1 l0_1.length c0_1):=(I BK101.out 1).trans rfl
   have hcz36_2:w7.cell? ⟨gb101,2,none⟩ = some (.int .i64 a0_2):=(I BK101.out 2).trans rfl
   have hcz36_3:w7.cell? ⟨gb101,3,none⟩ = some (.int .i64 a0_3):=(I BK101.out 3).trans rfl
   have hcz36_4:w7.cell? ⟨gb101,4,none⟩ = some (.string a0_4):=(I BK101.out 4).trans rfl
   have hcz36_5:w7.cell? ⟨gb101,5,none⟩ = some (.string a0_5):=(I BK101.out 5).trans rfl
   have hcz36_6:w7.cell? ⟨gb101,6,none⟩ = some (.bool a0_6):=(I BK101.out 6).trans rfl
   have hcz36_7:w7.cell? ⟨gb101,7,none⟩ = some (.bool a0_7):=(I BK101.out 7).trans rfl
   have hfz36_0:=J BK101.out 0
   have hfz36_1:=J BK101.out 1
   have hfz36_2:=J BK101.out 2
   have hfz36_3:=J BK101.out 3
   have hfz36_4:=J BK101.out 4
   have hfz36_5:=J BK101.out 5
   have hfz36_6:=J BK101.out 6
   have hfz36_7:=J BK101.out 7
   go_wp2_with (first|((with_reducible refine zw (f:=21) rfl ?_);refine goesL_ (some 12) rfl rfl Try.func21 (by kernel_rfl) rfl #[.agg #[.slice A0_0 l0_0.length c0_0,.slice A0_1 l0_1.length c0_1,.int .i64 a0_2,.int .i64 a0_3]] rfl (by(try simp only[jq0,jq1,jq2]);first|done|rfl|(simp only[jq3,jq4];rfl)) ?_;(with_reducible refine(wk.calls k _ _ l0_0 _ _ l0_1 a0_2 a0_3 false _ ?side1 ?side2 ?side3 ?side4 A14.out).mono ?_);(case side1=>exact Kd.C_below HR0_0.out (by solve_by_elim (maxDepth:=20) only[HB.out,O,U,L,qq,GE101.out,qq,GE116.out]));(case side2=>exact HC0_0.out);(case side3=>exact Kd.C_below HR0_1.out (by solve_by_elim (maxDepth:=20) only[HB.out,O,U,L,qq,GE101.out,qq,GE116.out]));(case side4=>exact HC0_1.out);rintro e w37 ⟨rfl,hb⟩;refine⟨_,rfl,?_⟩;replace HO105:=X.mk (Kd.V_below (by(with_reducible repeat(first|apply Kd.jx|apply Kd.jw|apply Kd.kz));exact(Kd.V_mono (Kd.V_far (p:=⟨gb116,4,none⟩) (Kd.V_far (p:=⟨gb116,3,none⟩) (Kd.V_far (p:=⟨gb116,2,none⟩) (Kd.V_far (p:=⟨gb116,1,none⟩) (Kd.V_far (p:=⟨gb116,0,none⟩) (Kd.V_mono HO105.out (fun k_ hk=>(⟨hk,hk.2⟩ : _∧k_≠gb116))) (fun _ hk=>hk.2) (.string t102)) (fun _ hk=>hk.2) (.slice Ao10 t103.length co10)) (fun _ hk=>hk.2) (.slice Ao11 t106.length co11)) (fun _ hk=>hk.2) (.slice Ao12 t109.length co12)) (fun _ hk=>hk.2) (.slice Ao13 t112.length co13)) (fun _ h_=>h_.1))) hb);replace HO108:=X.mk (Kd.V_below (by(with_reducible repeat(first|apply Kd.jx|apply Kd.jw|apply Kd.kz));exact(Kd.V_mono (Kd.V_far (p:=⟨gb116,4,none⟩) (Kd.V_far (p:=⟨gb116,3,none⟩) (Kd.V_far (p:=⟨gb116,2,none⟩) (Kd.V_far (p:=⟨gb116,1,none⟩) (Kd.V_far (p:=⟨gb116,0,none⟩) (Kd.V_mono HO108.out (fun k_ hk=>(⟨hk,hk.2⟩ : _∧k_≠gb116))) (fun _ hk=>hk.2) (.string t102)) (fun _ hk=>hk.2) (.slice Ao10 t103.length co10)) (fun _ hk=>hk.2) (.slice Ao11 t106.length co11)) (fun _ hk=>hk.2) (.slice Ao12 t109.length co12)) (fun _ hk=>hk.2) (.slice Ao13 t112.length co13)) (fun _ h_=>h_.1))) hb);replace HO111:=X.mk (Kd.V_below (by(with_reducible repeat(first|apply Kd.jx|apply Kd.jw|apply Kd.kz));exact(Kd.V_mono (Kd.V_far (p:=⟨gb116,4,none⟩) (Kd.V_far (p:=⟨gb116,3,none⟩) (Kd.V_far (p:=⟨gb116,2,none⟩) (Kd.V_far (p:=⟨gb116,1,none⟩) (Kd.V_far (p:=⟨gb116,0,none⟩) (Kd.V_mono HO111.out (fun k_ hk=>(⟨hk,hk.2⟩ : _∧k_≠gb116))) (fun _ hk=>hk.2) (.string t102)) (fun _ hk=>hk.2) (.slice Ao10 t103.length co10)) (fun _ hk=>hk.2) (.slice Ao11 t106.length co11)) (fun _ hk=>hk.2) (.slice Ao12 t109.length co12)) (fun _ hk=>hk.2) (.slice Ao13 t112.length co13)) (fun _ h_=>h_.1))) hb);replace HO114:=X.mk (Kd.V_below (by(with_reducible repeat(first|apply Kd.jx|apply Kd.jw|apply Kd.kz));exact(Kd.V_mono (Kd.V_far (p:=⟨gb116,4,none⟩) (Kd.V_far (p:=⟨gb116,3,none⟩) (Kd.V_far (p:=⟨gb116,2,none⟩) (Kd.V_far (p:=⟨gb116,1,none⟩) (Kd.V_far (p:=⟨gb116,0,none⟩) (Kd.V_mono HO114.out (fun k_ hk=>(⟨hk,hk.2⟩ : _∧k_≠gb116))) (fun _ hk=>hk.2) (.string t102)) (fun _ hk=>hk.2) (.slice Ao10 t103.length co10)) (fun _ hk=>hk.2) (.slice Ao11 t106.length co11)) (fun _ hk=>hk.2) (.slice Ao12 t109.length co12)) (fun _ hk=>hk.2) (.slice Ao13 t112.length co13)) (fun _ h_=>h_.1))) hb);replace BK101:=X.mk (kj (g:=gb101) (o:=.cells #[.slice A0_0 l0_0.length c0_0,.slice A0_1 l0_1.length c0_1,.int .i64 a0_2,.int .i64 a0_3,.string a0_4,.string a0_5,.bool a0_6,.bool a0_7] 62 (0,0)) (by(with_reducible repeat(first|refine qj ?_ _|refine qk ?_|refine qz ?_ _));refine blk_far ?_ NB101_116.out _;(with_reducible repeat(first|refine qj ?_ _|refine qk ?_|refine qz ?_ _));refine blk_far ?_ NB101_116.out _;(with_reducible repeat(first|refine qj ?_ _|refine qk ?_|refine qz ?_ _));refine blk_far ?_ NB101_116.out _;(with_reducible repeat(first|refine qj ?_ _|refine qk ?_|refine qz ?_ _));refine blk_far ?_ NB101_116.out _;(with_reducible repeat(first|refine qj ?_ _|refine qk ?_|refine qz ?_ _));refine blk_far ?_ NB101_116.out _;(with_reducible repeat(first|refine qj ?_ _|refine qk ?_|refine qz ?_ _));exact BK101.out) hb);replace BK116:=X.mk (kj (g:=gb116) (o:=.cells #[.string t102,.slice Ao10 t103.length co10,.slice Ao11 t106.length co11,.slice Ao12 t109.length co12,.slice Ao13 t112.length co13] 77 (0,0)) (by(with_reducible repeat(first|refine qj ?_ _|refine qk ?_|refine qz ?_ _));refine blk_put (cs:=#[.string t102,.slice Ao10 t103.length co10,.slice Ao11 t106.length co11,.slice Ao12 t109.length co12,.slice none 0 0]) ?_ 4 _ rfl;(with_reducible repeat(first|refine qj ?_ _|refine qk ?_|refine qz ?_ _));refine blk_put (cs:=#[.string t102,.slice Ao10 t103.length co10,.slice Ao11 t106.length co11,.slice none 0 0,.slice none 0 0]) ?_ 3 _ rfl;(with_reducible repeat(first|refine qj ?_ _|refine qk ?_|refine qz ?_ _));refine blk_put (cs:=#[.string t102,.slice Ao10 t103.length co10,.slice none 0 0,.slice none 0 0,.slice none 0 0]) ?_ 2 _ rfl;(with_reducible repeat(first|refine qj ?_ _|refine qk ?_|refine qz ?_ _));refine blk_put (cs:=#[.string t102,.slice none 0 0,.slice none 0 0,.slice none 0 0,.slice none 0 0]) ?_ 1 _ rfl;(with_reducible repeat(first|refine qj ?_ _|refine qk ?_|refine qz ?_ _));refine blk_put (cs:=#[.string (⟨#[]⟩ : ByteArray),.slice none 0 0,.slice none 0 0,.slice none 0 0,.slice none 0 0]) ?_ 0 _ rfl;(with_reducible repeat(first|refine qj ?_ _|refine qk ?_|refine qz ?_ _));exact BK116.out) hb);replace HB:=X.mk (qw (by solve_by_elim (maxDepth:=20) only[HB.out,O,U,L,qq,GE101.out,qq,GE116.out]) hb);(try clear hb)))
   go_meet
   case rel=>exact⟨_,(true),(by first|rfl|(simp;done)|(simp[*];done)),H',⟨by first|omega|exact Nat.le_refl _⟩,⟨by(with_reducible repeat(first|apply Kd.jx|apply Kd.jw|apply Kd.kz));exact HO105.out⟩,⟨by(with_reducible repeat(first|apply Kd.jx|apply Kd.jw|apply Kd.kz));exact HO108.out⟩,⟨by(with_reducible repeat(first|apply Kd.jx|apply Kd.jw|apply Kd.kz));exact HO111.out⟩,⟨by(with_reducible repeat(first|apply Kd.jx|apply Kd.jw|apply Kd.kz));exact HO114.out⟩,⟨by(with_reducible repeat(first|refine qj ?_ _|refine qk ?_|refine qz ?_ _));exact BK101.out⟩,⟨by(with_reducible repeat(first|refine qj ?_ _|refine qk ?_|refine qz ?_ _));exact BK116.out⟩,⟨by repeat(first|(with_reducible first|exact HB.out|apply O|apply U|apply L|refine qq ?_ GE101.out|refine qq ?_ GE116.out)|exact HB.out)⟩⟩
 case rest =>
  clear HC3
  try clear c1
  try clear c2
  try clear p2
  try clear c3
  try clear c6
  try clear c8
  try clear c15
  try clear c16
  try clear c17
  try clear c17b0
  try clear c17b1
  try clear c17b2
  try clear c18
  try clear c21
  try clear c22
  try clear c22b0
  try clear c22b1
  try clear c22b2
  try clear c23
  try clear c28
  try clear c32
  try clear c35
  try clear hcz19_0
  try clear hcz19_1
  try clear hcz19_2
  try clear hcz19_3
  try clear hcz19_4
  try clear hcz19_5
  try clear hcz19_6
  try clear hcz19_7
  try clear hcz21_0
  try clear hcz21_1
  try clear hcz21_2
  try clear hcz21_3
  try clear hcz21_4
  try clear hcz24_0
  try clear hcz24_1
  try clear hcz24_2
  try clear hcz24_3
  try clear hcz24_4
  try clear hcz24_5
  try clear hcz24_6
  try clear hcz24_7
  try clear hcz26_0
  try clear hcz26_1
  try clear hcz26_2
  try clear hcz26_3
  try clear hcz26_4
  try clear hcz29_0
  try clear hcz29_1
  try clear hcz29_2
  try clear hcz29_3
  try clear hcz29_4
  try clear hcz29_5
  try clear hcz29_6
  try clear hcz29_7
  try clear hcz31_0
  try clear hcz31_1
  try clear hcz31_2
  try clear hcz31_3
  try clear hcz31_4
  try clear hcz33_0
  try clear hcz33_1
  try clear hcz33_2
  try clear hcz33_3
  try clear hcz33_4
  try clear hcz33_5
  try clear hcz33_6
  try clear hcz33_7
  try clear hcz36_0
  try clear hcz36_1
  try clear hcz36_2
  try clear hcz36_3
  try clear hcz36_4
  try clear hcz36_5
  try clear hcz36_6
  try clear hcz36_7
  try clear hcz5_0
  try clear hcz5_1
  try clear hcz5_2
  try clear hcz5_3
  try clear hcz5_4
  try clear hcz5_5
  try clear hcz5_6
  try clear hcz5_7
  try clear hcz9_0
  try clear hcz9_1
  try clear hcz9_2
  try clear hcz9_3
  try clear hcz9_4
  try clear hfz19_0
  try clear hfz19_1
  try clear hfz19_2
  try clear hfz19_3
  try clear hfz19_4
  try clear hfz19_5
  try clear hfz19_6
  try clear hfz19_7
  try clear hfz21_0
  try clear hfz21_1
  try clear hfz21_2
  try clear hfz21_3
  try clear hfz21_4
  try clear hfz24_0
  try clear hfz24_1
  try clear hfz24_2
  try clear hfz24_3
  try clear hfz24_4
  try clear hfz24_5
  try clear hfz24_6
  try clear hfz24_7
  try clear hfz26_0
  try clear hfz26_1
  try clear hfz26_2
  try clear hfz26_3
  try clear hfz26_4
  try clear hfz29_0
  try clear hfz29_1
  try clear hfz29_2
  try clear hfz29_3
  try clear hfz29_4
  try clear hfz29_5
  try clear hfz29_6
  try clear hfz29_7
  try clear hfz31_0
  try clear hfz31_1
  try clear hfz31_2
  try clear hfz31_3
  try clear hfz31_4
  try clear hfz33_0
  try clear hfz33_1
  try clear hfz33_2
  try clear hfz33_3
  try clear hfz33_4
  try clear hfz33_5
  try clear hfz33_6
  try clear hfz33_7
  try clear hfz36_0
  try clear hfz36_1
  try clear hfz36_2
  try clear hfz36_3
  try clear hfz36_4
  try clear hfz36_5
  try clear hfz36_6
  try clear hfz36_7
  try clear hfz5_0
  try clear hfz5_1
  try clear hfz5_2
  try clear hfz5_3
  try clear hfz5_4
  try clear hfz5_5
  try clear hfz5_6
  try clear hfz5_7
  try clear hfz9_0
  try clear hfz9_1
  try clear hfz9_2
  try clear hfz9_3
  try clear hfz9_4
  obtain⟨kq,x35_2,rfl,HA,HJ2,HO_117001,HO_117002,HO_117003,HO_117004,BK101,BK116,HB⟩:=hcut
  cases kq with
  | zero=>exact absurd HA.out (by simp[wz.j0])
  | succ kj2 =>
   have H:=HA.out
   clear HA
   simp only[wz.j0] at H
   by_cases c38:x35_2=true
   ·subst c38
    have H1:(some false)=some r:=by rw[if_pos rfl] at H;exact H
    clear H
    have H:=H1
    clear H1
    obtain rfl:=Option.some.inj H
    go_wp2
    go_ret
    exact⟨by first|rfl|(simp[*,zv,zk] <;> rfl),by repeat(first|(with_reducible first|exact HB.out|apply O|apply U|apply L|refine qq ?_ GE101.out|refine qq ?_ GE116.out)|exact HB.out)⟩
   ·replace c38:=jq9.mpr c38
    subst c38
    have H1:(if (t103.length:Int)=0 then(some (a0_5.toList == ([]:List UInt8))) else(if (a0_5.size:Int) ≥ 1 then(if (a0_5.size:Int)≤200 then((bytesOfS.f a0_5).bind fun t119=>((wq.f t119).bind fun t122=>((vq.f t122 t103).bind fun t125=>(some t125)))) else(some false)) else(some false)))=some r:=by rw[if_neg (show ¬ (false=true) by decide)] at H;exact H
    clear H
    have H:=H1
    clear H1
    by_cases c39:(t103.length:Int)=0
    ·rw[if_pos c39] at H
     have c39b0:((t103.length:Int) == 0)=true:=beq_iff_eq.mpr c39
     have c39b1:((t103.length:Int) != 0)=false:=bne_eq_false_iff_eq.mpr c39
     clear c39
     obtain rfl:=Option.some.inj H
     have hnb40:=NB116_101.out
     have hnc40:=NB101_116.out
     have hcz41_0:wc.cell? ⟨gb116,0,none⟩ = some (.string t102):=(I BK116.out 0).trans rfl
     have hcz41_1:wc.cell? ⟨gb116,1,none⟩ = some (.slice Ao10 t103.length co10):=(I BK116.out 1).trans rfl
     have hcz41_2:wc.cell? ⟨gb116,2,none⟩ = some (.slice Ao11 t106.length co11):=(I BK116.out 2).trans rfl
     have hcz41_3:wc.cell? ⟨gb116,3,none⟩ = some (.slice Ao12 t109.length co12):=(I BK116.out 3).trans rfl
     have hcz41_4:wc.cell? ⟨gb116,4,none⟩ = some (.slice Ao13 t112.length co13):=(I BK116.out 4).trans rfl
     have hfz41_0:=J BK116.out 0
     have hfz41_1:=J BK116.out 1
     have hfz41_2:=J BK116.out 2
     have hfz41_3:=J BK116.out 3
     have hfz41_4:=J BK116.out 4
     have hcz42_0:wc.cell? ⟨gb101,0,none⟩ = some (.slice A0_0 l0_0.length c0_0):=(I BK101.out 0).trans rfl
     have hcz42_1:wc.cell? ⟨gb101,1,none⟩ = some (.slice A0_1 l0_1.length c0_1):=(I BK101.out 1).trans rfl
     have hcz42_2:wc.cell? ⟨gb101,2,none⟩ = some (.int .i64 a0_2):=(I BK101.out 2).trans rfl
     have hcz42_3:wc.cell? ⟨gb101,3,none⟩ = some (.int .i64 a0_3):=(I BK101.out 3).trans rfl
     have hcz42_4:wc.cell? ⟨gb101,4,none⟩ = some (.string a0_4):=(I BK101.out 4).trans rfl
     have hcz42_5:wc.cell? ⟨gb101,5,none⟩ = some (.string a0_5):=(I BK101.out 5).trans rfl
     have hcz42_6:wc.cell? ⟨gb101,6,none⟩ = some (.bool a0_6):=(I BK101.out 6).trans rfl
     have hcz42_7:wc.cell? ⟨gb101,7,none⟩ = some (.bool a0_7):=(I BK101.out 7).trans rfl
     have hfz42_0:=J BK101.out 0
     have hfz42_1:=J BK101.out 1
     have hfz42_2:=J BK101.out 2
     have hfz42_3:=J BK101.out 3
     have hfz42_4:=J BK101.out 4
     have hfz42_5:=J BK101.out 5
     have hfz42_6:=J BK101.out 6
     have hfz42_7:=J BK101.out 7
     go_wp2
     go_ret
     exact⟨by first|rfl|(simp[*,zv,zk] <;> rfl),by repeat(first|(with_reducible first|exact HB.out|apply O|apply U|apply L|refine qq ?_ GE101.out|refine qq ?_ GE116.out)|exact HB.out)⟩
    ·rw[if_neg c39] at H
     have c39b0:((t103.length:Int) == 0)=false:=beq_eq_false_iff_ne.mpr c39
     have c39b1:((t103.length:Int) != 0)=true:=bne_iff_ne.mpr c39
     have c39b2:¬ (t103=[]):=fun h_=>c39 (by rw[h_];rfl)
     by_cases c43:(a0_5.size:Int) ≥ 1
     ·rw[if_pos c43] at H
      have c43b0:decide (1≤(a0_5.size:Int))=true:=decide_eq_true c43
      have c43b1:decide (1≤a0_5.size)=true:=decide_eq_true (by omega)
      clear c43
      by_cases c44:(a0_5.size:Int)≤200
      ·rw[if_pos c44] at H
       have c44b0:decide ((a0_5.size:Int)≤200)=true:=decide_eq_true c44
       have c44b1:decide (a0_5.size≤200)=true:=decide_eq_true (by omega)
       clear c44
       replace H:=jq8.mp H
       obtain⟨t119,A450,H⟩:=H
       try dsimp only at H
       have A45:=X.mk A450
       clear A450
       replace H:=jq8.mp H
       obtain⟨t122,A460,H⟩:=H
       try dsimp only at H
       have A46:=X.mk A460
       clear A460
       replace H:=jq8.mp H
       obtain⟨t125,A470,H⟩:=H
       replace H:(some t125)=some r:=H
       have A47:=X.mk A470
       clear A470
       obtain rfl:=Option.some.inj H
       have hnb48:=NB116_101.out
       have hnc48:=NB101_116.out
       have hcz49_0:wc.cell? ⟨gb116,0,none⟩ = some (.string t102):=(I BK116.out 0).trans rfl
       have hcz49_1:wc.cell? ⟨gb116,1,none⟩ = some (.slice Ao10 t103.length co10):=(I BK116.out 1).trans rfl
       have hcz49_2:wc.cell? ⟨gb116,2,none⟩ = some (.slice Ao11 t106.length co11):=(I BK116.out 2).trans rfl
       have hcz49_3:wc.cell? ⟨gb116,3,none⟩ = some (.slice Ao12 t109.length co12):=(I BK116.out 3).trans rfl
       have hcz49_4:wc.cell? ⟨gb116,4,none⟩ = some (.slice Ao13 t112.length co13):=(I BK116.out 4).trans rfl
       have hfz49_0:=J BK116.out 0
       have hfz49_1:=J BK116.out 1
       have hfz49_2:=J BK116.out 2
       have hfz49_3:=J BK116.out 3
       have hfz49_4:=J BK116.out 4
       try go_wp2
       replace HO_117001:=X.mk (Kd.kz HO_117001.out)
       replace HO_117002:=X.mk (Kd.kz HO_117002.out)
       replace HO_117003:=X.mk (Kd.kz HO_117003.out)
       replace HO_117004:=X.mk (Kd.kz HO_117004.out)
       replace BK101:=X.mk (qk BK101.out)
       replace BK116:=X.mk (qk BK116.out)
       replace HB:=X.mk (L HB.out)
       refine start_ (n:=20) (S:=fun w'=>w'.cell? ⟨gb101,0,none⟩ = some (.slice A0_0 l0_0.length c0_0)∧w'.cell? ⟨gb101,1,none⟩ = some (.slice A0_1 l0_1.length c0_1)∧w'.cell? ⟨gb101,2,none⟩ = some (.int .i64 a0_2)∧w'.cell? ⟨gb101,3,none⟩ = some (.int .i64 a0_3)∧w'.cell? ⟨gb101,4,none⟩ = some (.string a0_4)∧w'.cell? ⟨gb101,5,none⟩ = some (.string a0_5)∧w'.cell? ⟨gb101,6,none⟩ = some (.bool a0_6)∧w'.cell? ⟨gb101,7,none⟩ = some (.bool a0_7)∧w'.cell? ⟨gb116,0,none⟩ = some (.string t102)∧w'.cell? ⟨gb116,1,none⟩ = some (.slice Ao10 t103.length co10)∧w'.cell? ⟨gb116,2,none⟩ = some (.slice Ao11 t106.length co11)∧w'.cell? ⟨gb116,3,none⟩ = some (.slice Ao12 t109.length co12)∧w'.cell? ⟨gb116,4,none⟩ = some (.slice Ao13 t112.length co13)) (ds:=[]) #[Y,Y,Y,Y,Y,Y,Y,Y,Y,Y,Y,Y,Y,Y,Y,Y,Y,Y,Y,Y] (by kernel_rfl) rfl rfl ⟨(I BK101.out 0).trans rfl,(I BK101.out 1).trans rfl,(I BK101.out 2).trans rfl,(I BK101.out 3).trans rfl,(I BK101.out 4).trans rfl,(I BK101.out 5).trans rfl,(I BK101.out 6).trans rfl,(I BK101.out 7).trans rfl,(I BK116.out 0).trans rfl,(I BK116.out 1).trans rfl,(I BK116.out 2).trans rfl,(I BK116.out 3).trans rfl,(I BK116.out 4).trans rfl⟩ (fun hHeld=>?_);refine with_tabW wz.tab6 wz.bits6 (fun HT_ HW_=>?_)
       generalize wc.drew=w50 at HO_117001 HO_117002 HO_117003 HO_117004 BK101 BK116 HB hHeld ⊢
       refine pure_ (i:=0) (N:=some 43) (v:=?_) (a':=?_) #[Z,Y,Y,Y,Y,Y,Y,Y,Y,Y,Y,Y,Y,Y,Y,Y,Y,Y,Y,Y] rfl rfl (any_of HT_.out (by kernel_rfl)) (fun _ _ _ h=>h) (Or.inl ⟨by rfl,?_⟩) ?_ ?_
       rotate_left
       ·intro w'
        go_simp
        with_reducible rfl
       rotate_left
       ·simp only[Act.put,jq5,jq6,jq7,i64_w,i32_w]
        rfl
       refine take_ (i:=1) (N:=some 44) (v:=?_) (a':=?_) #[Z,Z,Y,Y,Y,Y,Y,Y,Y,Y,Y,Y,Y,Y,Y,Y,Y,Y,Y,Y] rfl rfl (take_ofW HT_.out HW_.out (by kernel_rfl)) (fun _ _ _ h=>h) (Or.inl ⟨by rfl,?_⟩) hHeld ?_ ?_
       rotate_left
       ·rintro w' ⟨s0,s1,s2,s3,s4,s5,s6,s7,s8,s9,s10,s11,s12⟩
        go_simp
        with_reducible rfl
       rotate_left
       ·simp only[Act.put,jq5,jq6,jq7,i64_w,i32_w]
        rfl
       refine pure_ (i:=2) (N:=some 45) (v:=?_) (a':=?_) #[Z,Z,Z,Y,Y,Y,Y,Y,Y,Y,Y,Y,Y,Y,Y,Y,Y,Y,Y,Y] rfl rfl (any_of HT_.out (by kernel_rfl)) (fun _ _ _ h=>h) (Or.inl ⟨by rfl,?_⟩) ?_ ?_
       rotate_left
       ·intro w'
        go_simp
        with_reducible rfl
       rotate_left
       ·simp only[Act.put,jq5,jq6,jq7,i64_w,i32_w]
        rfl
       refine pure_ (i:=3) (N:=some 46) (v:=?_) (a':=?_) #[Z,Z,Z,Z,Y,Y,Y,Y,Y,Y,Y,Y,Y,Y,Y,Y,Y,Y,Y,Y] rfl rfl (any_of HT_.out (by kernel_rfl)) (fun _ _ _ h=>h) (Or.inl ⟨by rfl,?_⟩) ?_ ?_
       rotate_left
       ·intro w'
        go_simp
        with_reducible rfl
       rotate_left
       ·simp only[Act.put,jq5,jq6,jq7,i64_w,i32_w]
        rfl
       refine pure_ (i:=4) (N:=some 47) (v:=?_) (a':=?_) #[Z,Z,Z,Z,Z,Y,Y,Y,Y,Y,Y,Y,Y,Y,Y,Y,Y,Y,Y,Y] rfl rfl (any_of HT_.out (by kernel_rfl)) (fun _ _ _ h=>h) (Or.inl ⟨by rfl,?_⟩) ?_ ?_
       rotate_left
       ·intro w'
        go_simp
        with_reducible rfl
       rotate_left
       ·simp only[Act.put,jq5,jq6,jq7,i64_w,i32_w]
        rfl
       refine pure_ (i:=5) (N:=some 48) (v:=?_) (a':=?_) #[Z,Z,Z,Z,Z,Z,Y,Y,Y,Y,Y,Y,Y,Y,Y,Y,Y,Y,Y,Y] rfl rfl (any_of HT_.out (by kernel_rfl)) (fun _ _ _ h=>h) (Or.inl ⟨by rfl,?_⟩) ?_ ?_
       rotate_left
       ·intro w'
        go_simp
        with_reducible rfl
       rotate_left
       ·simp only[Act.put,jq5,jq6,jq7,i64_w,i32_w]
        rfl
       refine take_ (i:=6) (N:=some 49) (v:=?_) (a':=?_) #[Z,Z,Z,Z,Z,Z,Z,Y,Y,Y,Y,Y,Y,Y,Y,Y,Y,Y,Y,Y] rfl rfl (take_ofW HT_.out HW_.out (by kernel_rfl)) (fun _ _ _ h=>h) (Or.inl ⟨by rfl,?_⟩) hHeld ?_ ?_
       rotate_left
       ·rintro w' ⟨s0,s1,s2,s3,s4,s5,s6,s7,s8,s9,s10,s11,s12⟩
        go_simp
        with_reducible rfl
       rotate_left
       ·simp only[Act.put,jq5,jq6,jq7,i64_w,i32_w]
        rfl
       refine pure_ (i:=7) (N:=some 50) (v:=?_) (a':=?_) #[Z,Z,Z,Z,Z,Z,Z,Z,Y,Y,Y,Y,Y,Y,Y,Y,Y,Y,Y,Y] rfl rfl (any_of HT_.out (by kernel_rfl)) (fun _ _ _ h=>h) (Or.inl ⟨by rfl,?_⟩) ?_ ?_
       rotate_left
       ·intro w'
        go_simp
        with_reducible rfl
       rotate_left
       ·simp only[Act.put,jq5,jq6,jq7,i64_w,i32_w]
        rfl
       refine pure_ (i:=8) (N:=some 51) (v:=?_) (a':=?_) #[Z,Z,Z,Z,Z,Z,Z,Z,Z,Y,Y,Y,Y,Y,Y,Y,Y,Y,Y,Y] rfl rfl (any_of HT_.out (by kernel_rfl)) (fun _ _ _ h=>h) (Or.inl ⟨by rfl,?_⟩) ?_ ?_
       rotate_left
       ·intro w'
        go_simp
        with_reducible rfl
       rotate_left
       ·simp only[Act.put,jq5,jq6,jq7,i64_w,i32_w]
        rfl
       refine pure_ (i:=9) (N:=some 52) (v:=?_) (a':=?_) #[Z,Z,Z,Z,Z,Z,Z,Z,Z,Z,Y,Y,Y,Y,Y,Y,Y,Y,Y,Y] rfl rfl (any_of HT_.out (by kernel_rfl)) (fun _ _ _ h=>h) (Or.inl ⟨by rfl,?_⟩) ?_ ?_
       rotate_left
       ·intro w'
        go_simp
        with_reducible rfl
       rotate_left
       ·simp only[Act.put,jq5,jq6,jq7,i64_w,i32_w]
        rfl
       refine pure_ (i:=10) (N:=some 53) (v:=?_) (a':=?_) #[Z,Z,Z,Z,Z,Z,Z,Z,Z,Z,Z,Y,Y,Y,Y,Y,Y,Y,Y,Y] rfl rfl (any_of HT_.out (by kernel_rfl)) (fun _ _ _ h=>h) (Or.inl ⟨by rfl,?_⟩) ?_ ?_
       rotate_left
       ·intro w'
        go_simp
        with_reducible rfl
       rotate_left
       ·simp only[Act.put,jq5,jq6,jq7,i64_w,i32_w]
        rfl
       refine pure_ (i:=11) (N:=some 54) (v:=?_) (a':=?_) #[Z,Z,Z,Z,Z,Z,Z,Z,Z,Z,Z,Z,Y,Y,Y,Y,Y,Y,Y,Y] rfl rfl (any_of HT_.out (by kernel_rfl)) (fun _ _ _ h=>h) (Or.inl ⟨by rfl,?_⟩) ?_ ?_
       rotate_left
       ·intro w'
        go_simp
        with_reducible rfl
       rotate_left
       ·simp only[Act.put,jq5,jq6,jq7,i64_w,i32_w]
        rfl
       refine pure_ (i:=15) (N:=some 58) (v:=?_) (a':=?_) #[Z,Z,Z,Z,Z,Z,Z,Z,Z,Z,Z,Z,Y,Y,Y,Z,Y,Y,Y,Y] rfl rfl (any_of HT_.out (by kernel_rfl)) (fun _ _ _ h=>h) (Or.inl ⟨by rfl,?_⟩) ?_ ?_
       rotate_left
       ·intro w'
        go_simp
        with_reducible rfl
       rotate_left
       ·simp only[Act.put,jq5,jq6,jq7,i64_w,i32_w]
        rfl
       refine take_ (i:=12) (N:=some 55) (v:=?_) (a':=?_) #[Z,Z,Z,Z,Z,Z,Z,Z,Z,Z,Z,Z,Z,Y,Y,Z,Y,Y,Y,Y] rfl rfl (take_ofW HT_.out HW_.out (by kernel_rfl)) (fun _ _ _ h=>h) (Or.inl ⟨by rfl,?_⟩) hHeld ?_ ?_
       rotate_left
       ·rintro w' ⟨s0,s1,s2,s3,s4,s5,s6,s7,s8,s9,s10,s11,s12⟩
        go_simp
        with_reducible rfl
       rotate_left
       ·simp only[Act.put,jq5,jq6,jq7,i64_w,i32_w]
        rfl
       refine take_ (i:=16) (N:=some 59) (v:=?_) (a':=?_) #[Z,Z,Z,Z,Z,Z,Z,Z,Z,Z,Z,Z,Z,Y,Y,Z,Z,Y,Y,Y] rfl rfl (take_ofW HT_.out HW_.out (by kernel_rfl)) (fun _ _ _ h=>h) (Or.inl ⟨by rfl,?_⟩) hHeld ?_ ?_
       rotate_left
       ·rintro w' ⟨s0,s1,s2,s3,s4,s5,s6,s7,s8,s9,s10,s11,s12⟩
        go_simp
        with_reducible rfl
       rotate_left
       ·simp only[Act.put,jq5,jq6,jq7,i64_w,i32_w]
        rfl
       refine one_ (i:=13) (N:=some 56) #[Z,Z,Z,Z,Z,Z,Z,Z,Z,Z,Z,Z,Z,Z,Y,Z,Z,Y,Y,Y] rfl rfl (one_of HT_.out (by kernel_rfl)) (by decide) (fun K hK=>?_)
       refine bytesGoes_ (s:=a0_5) (by rfl) rfl rfl rfl ?_
       with_reducible refine(bytesOfS.calls a0_5 t119 _ A45.out).mono ?_
       rintro e w51 ⟨v120,rfl,ho0,hb⟩
       refine⟨_,rfl,?_⟩
       replace HO_117001:=X.mk (Kd.V_below (by(with_reducible repeat(first|apply Kd.jx|apply Kd.jw|apply Kd.kz));exact HO_117001.out) hb)
       replace HO_117002:=X.mk (Kd.V_below (by(with_reducible repeat(first|apply Kd.jx|apply Kd.jw|apply Kd.kz));exact HO_117002.out) hb)
       replace HO_117003:=X.mk (Kd.V_below (by(with_reducible repeat(first|apply Kd.jx|apply Kd.jw|apply Kd.kz));exact HO_117003.out) hb)
       replace HO_117004:=X.mk (Kd.V_below (by(with_reducible repeat(first|apply Kd.jx|apply Kd.jw|apply Kd.kz));exact HO_117004.out) hb)
       have HO121:=X.mk (Kd.V_lower (Kd.V_mono (ok':=fun k_=>k_≠gb101∧k_≠gb116) ho0 (fun k_ hk_=>⟨(Kd.freshB (g:=gb101) (o:=.cells #[.slice A0_0 l0_0.length c0_0,.slice A0_1 l0_1.length c0_1,.int .i64 a0_2,.int .i64 a0_3,.string a0_4,.string a0_5,.bool a0_6,.bool a0_7] 62 (0,0)) (by solve_by_elim only[BK101.out,qj,qk,qz]) k_ hk_),(Kd.freshB (g:=gb116) (o:=.cells #[.string t102,.slice Ao10 t103.length co10,.slice Ao11 t106.length co11,.slice Ao12 t109.length co12,.slice Ao13 t112.length co13] 77 (0,0)) (by solve_by_elim only[BK116.out,qj,qk,qz]) k_ hk_)⟩)) (qx (by solve_by_elim (maxDepth:=20) only[HB.out,O,U,L,qq,GE101.out,qq,GE116.out])))
       replace BK101:=X.mk (kj (g:=gb101) (o:=.cells #[.slice A0_0 l0_0.length c0_0,.slice A0_1 l0_1.length c0_1,.int .i64 a0_2,.int .i64 a0_3,.string a0_4,.string a0_5,.bool a0_6,.bool a0_7] 62 (0,0)) (by solve_by_elim only[BK101.out,qj,qk,qz]) hb)
       replace BK116:=X.mk (kj (g:=gb116) (o:=.cells #[.string t102,.slice Ao10 t103.length co10,.slice Ao11 t106.length co11,.slice Ao12 t109.length co12,.slice Ao13 t112.length co13] 77 (0,0)) (by solve_by_elim only[BK116.out,qj,qk,qz]) hb)
       replace HB:=X.mk (qw (by solve_by_elim (maxDepth:=20) only[HB.out,O,U,L,qq,GE101.out,qq,GE116.out]) hb)
       (try clear hb)
       (try clear hb2)
       (try clear hk)
       (try clear hi)
       (try clear ho0)
       obtain⟨Ao52,co52,eo52⟩:=Kd.V_slice HO121.out
       (first|subst eo52|(injection eo52 with f1_ f2_ f3_;have f4_:=f1_.symm;have f5_:=f3_.symm;clear f1_ f2_ f3_;subst f4_;subst f5_))
       refine hK.out _ _ ⟨(I BK101.out 0).trans rfl,(I BK101.out 1).trans rfl,(I BK101.out 2).trans rfl,(I BK101.out 3).trans rfl,(I BK101.out 4).trans rfl,(I BK101.out 5).trans rfl,(I BK101.out 6).trans rfl,(I BK101.out 7).trans rfl,(I BK116.out 0).trans rfl,(I BK116.out 1).trans rfl,(I BK116.out 2).trans rfl,(I BK116.out 3).trans rfl,(I BK116.out 4).trans rfl⟩ (fun hHeld=>?_)
       clear hK K
       refine norm_ (a':=?_) ?_ ?_
       rotate_left
       ·show Act.put _ (some 56) _=_
        simp only[Act.put,jq5,jq6,jq7,i64_w,i32_w]
        rfl
       refine one_ (i:=14) (N:=some 57) #[Z,Z,Z,Z,Z,Z,Z,Z,Z,Z,Z,Z,Z,Z,Z,Z,Z,Y,Y,Y] rfl rfl (one_of HT_.out (by kernel_rfl)) (by decide) (fun K hK=>?_)
       refine goes_ Try.func65 (by kernel_rfl) rfl #[.slice Ao52 t119.length co52] (by rfl) rfl rfl (by(try simp only[jq0,jq1,jq2]);first|done|rfl|(simp only[jq3,jq4];rfl)) ?_
       with_reducible refine(wq.calls _ _ t119 t122 _ ?side1 ?side2 A46.out).mono ?_
       (case side1=>solve_by_elim only[(Kd.V_reads' HO121.out).2.2,Kd.C_alloc,Kd.C_drewN,Kd.C_drew])
       (case side2=>exact(Kd.V_reads' HO121.out).2.1)
       rintro e w53 ⟨v123,rfl,ho0,hb⟩
       refine⟨_,rfl,?_⟩
       replace HO_117001:=X.mk (Kd.V_elder' (by(with_reducible repeat(first|apply Kd.jx|apply Kd.jw|apply Kd.kz));exact HO_117001.out) (Kd.R_base ho0) hb)
       replace HO_117002:=X.mk (Kd.V_elder' (by(with_reducible repeat(first|apply Kd.jx|apply Kd.jw|apply Kd.kz));exact HO_117002.out) (Kd.R_base ho0) hb)
       replace HO_117003:=X.mk (Kd.V_elder' (by(with_reducible repeat(first|apply Kd.jx|apply Kd.jw|apply Kd.kz));exact HO_117003.out) (Kd.R_base ho0) hb)
       replace HO_117004:=X.mk (Kd.V_elder' (by(with_reducible repeat(first|apply Kd.jx|apply Kd.jw|apply Kd.kz));exact HO_117004.out) (Kd.R_base ho0) hb)
       replace HO121:=X.mk (Kd.V_elder' (by(with_reducible repeat(first|apply Kd.jx|apply Kd.jw|apply Kd.kz));exact HO121.out) (Kd.R_base ho0) hb)
       have HO124:=X.mk (Kd.R_lower ho0 (qx (by solve_by_elim (maxDepth:=20) only[HB.out,O,U,L,qq,GE101.out,qq,GE116.out])))
       replace BK101:=X.mk (kj (g:=gb101) (o:=.cells #[.slice A0_0 l0_0.length c0_0,.slice A0_1 l0_1.length c0_1,.int .i64 a0_2,.int .i64 a0_3,.string a0_4,.string a0_5,.bool a0_6,.bool a0_7] 62 (0,0)) (by solve_by_elim only[BK101.out,qj,qk,qz]) hb)
       replace BK116:=X.mk (kj (g:=gb116) (o:=.cells #[.string t102,.slice Ao10 t103.length co10,.slice Ao11 t106.length co11,.slice Ao12 t109.length co12,.slice Ao13 t112.length co13] 77 (0,0)) (by solve_by_elim only[BK116.out,qj,qk,qz]) hb)
       replace HB:=X.mk (qw (by solve_by_elim (maxDepth:=20) only[HB.out,O,U,L,qq,GE101.out,qq,GE116.out]) hb)
       (try clear hb)
       (try clear hb2)
       (try clear hk)
       (try clear hi)
       (try clear ho0)
       obtain⟨Ao54,co54,eo54⟩:=Kd.R_slice HO124.out
       (first|subst eo54|(injection eo54 with f1_ f2_ f3_;have f4_:=f1_.symm;have f5_:=f3_.symm;clear f1_ f2_ f3_;subst f4_;subst f5_))
       refine hK.out _ _ ⟨(I BK101.out 0).trans rfl,(I BK101.out 1).trans rfl,(I BK101.out 2).trans rfl,(I BK101.out 3).trans rfl,(I BK101.out 4).trans rfl,(I BK101.out 5).trans rfl,(I BK101.out 6).trans rfl,(I BK101.out 7).trans rfl,(I BK116.out 0).trans rfl,(I BK116.out 1).trans rfl,(I BK116.out 2).trans rfl,(I BK116.out 3).trans rfl,(I BK116.out 4).trans rfl⟩ (fun hHeld=>?_)
       clear hK K
       refine norm_ (a':=?_) ?_ ?_
       rotate_left
       ·show Act.put _ (some 57) _=_
        simp only[Act.put,jq5,jq6,jq7,i64_w,i32_w]
        rfl
       refine one_ (i:=17) (N:=some 60) #[Z,Z,Z,Z,Z,Z,Z,Z,Z,Z,Z,Z,Z,Z,Z,Z,Z,Z,Y,Y] rfl rfl (one_of HT_.out (by kernel_rfl)) (by decide) (fun K hK=>?_)
       refine goes_ Try.func64 (by kernel_rfl) rfl #[.slice Ao54 t122.length co54,.slice Ao10 t103.length co10] (by rfl) rfl rfl (by(try simp only[jq0,jq1,jq2]);first|done|rfl|(simp only[jq3,jq4];rfl)) ?_
       with_reducible refine(vq.calls _ _ t122 _ _ t103 t125 _ ?side1 ?side2 ?side3 ?side4 A47.out).mono ?_
       (case side1=>solve_by_elim only[(Kd.R_reads' HO124.out).2.2,Kd.C_alloc,Kd.C_drewN,Kd.C_drew])
       (case side2=>exact(Kd.R_reads' HO124.out).2.1)
       (case side3=>solve_by_elim only[(Kd.V_reads' HO_117001.out).2.2,Kd.C_alloc,Kd.C_drewN,Kd.C_drew])
       (case side4=>exact(Kd.V_reads' HO_117001.out).2.1)
       rintro e w' ⟨rfl,⟨nd,rfl⟩⟩
       refine⟨_,rfl,?_⟩
       refine hK.out _ _ ⟨(I BK101.out 0).trans rfl,(I BK101.out 1).trans rfl,(I BK101.out 2).trans rfl,(I BK101.out 3).trans rfl,(I BK101.out 4).trans rfl,(I BK101.out 5).trans rfl,(I BK101.out 6).trans rfl,(I BK101.out 7).trans rfl,(I BK116.out 0).trans rfl,(I BK116.out 1).trans rfl,(I BK116.out 2).trans rfl,(I BK116.out 3).trans rfl,(I BK116.out 4).trans rfl⟩ (fun hHeld=>?_)
       clear hK K
       refine norm_ (a':=?_) ?_ ?_
       rotate_left
       ·show Act.put _ (some 60) _=_
        simp only[Act.put,jq5,jq6,jq7,i64_w,i32_w]
        rfl
       refine pure_ (i:=18) (N:=some 61) (v:=?_) (a':=?_) #[Z,Z,Z,Z,Z,Z,Z,Z,Z,Z,Z,Z,Z,Z,Z,Z,Z,Z,Z,Y] rfl rfl (any_of HT_.out (by kernel_rfl)) (fun _ _ _ h=>h) (Or.inl ⟨by rfl,?_⟩) ?_ ?_
       rotate_left
       ·intro w'
        go_simp
        with_reducible rfl
       rotate_left
       ·simp only[Act.put,jq5,jq6,jq7,i64_w,i32_w]
        rfl
       refine pure_ (i:=19) (N:=some 2) (v:=?_) (a':=?_) #[Z,Z,Z,Z,Z,Z,Z,Z,Z,Z,Z,Z,Z,Z,Z,Z,Z,Z,Z,Z] rfl rfl (any_of HT_.out (by kernel_rfl)) (fun _ _ _ h=>h) (Or.inl ⟨by rfl,?_⟩) ?_ ?_
       rotate_left
       ·intro w'
        go_simp
        with_reducible rfl
       rotate_left
       ·simp only[Act.put,jq5,jq6,jq7,i64_w,i32_w]
        rfl
       refine done_ (done_of HT_.out (by kernel_rfl)) ?_
       try go_wp2
       go_ret
       exact⟨by first|rfl|(simp[*,zv,zk] <;> rfl),by repeat(first|(with_reducible first|exact HB.out|apply O|apply U|apply L|refine qq ?_ GE101.out|refine qq ?_ GE116.out)|exact HB.out)⟩
      ·rw[if_neg c44] at H
       have c44b0:decide ((a0_5.size:Int)≤200)=false:=decide_eq_false c44
       have c44b1:decide (a0_5.size≤200)=false:=decide_eq_false (by omega)
       clear c44
       obtain rfl:=Option.some.inj H
       have hnb55:=NB116_101.out
       have hnc55:=NB101_116.out
       have hcz56_0:wc.cell? ⟨gb116,0,none⟩ = some (.string t102):=(I BK116.out 0).trans rfl
       have hcz56_1:wc.cell? ⟨gb116,1,none⟩ = some (.slice Ao10 t103.length co10):=(I BK116.out 1).trans rfl
       have hcz56_2:wc.cell? ⟨gb116,2,none⟩ = some (.slice Ao11 t106.length co11):=(I BK116.out 2).trans rfl
       have hcz56_3:wc.cell? ⟨gb116,3,none⟩ = some (.slice Ao12 t109.length co12):=(I BK116.out 3).trans rfl
       have hcz56_4:wc.cell? ⟨gb116,4,none⟩ = some (.slice Ao13 t112.length co13):=(I BK116.out 4).trans rfl
       have hfz56_0:=J BK116.out 0
       have hfz56_1:=J BK116.out 1
       have hfz56_2:=J BK116.out 2
       have hfz56_3:=J BK116.out 3
       have hfz56_4:=J BK116.out 4
       try go_wp2
       have hS_:=(show(fun w'=>w'.cell? ⟨gb101,0,none⟩ = some (.slice A0_0 l0_0.length c0_0)∧w'.cell? ⟨gb101,1,none⟩ = some (.slice A0_1 l0_1.length c0_1)∧w'.cell? ⟨gb101,2,none⟩ = some (.int .i64 a0_2)∧w'.cell? ⟨gb101,3,none⟩ = some (.int .i64 a0_3)∧w'.cell? ⟨gb101,4,none⟩ = some (.string a0_4)∧w'.cell? ⟨gb101,5,none⟩ = some (.string a0_5)∧w'.cell? ⟨gb101,6,none⟩ = some (.bool a0_6)∧w'.cell? ⟨gb101,7,none⟩ = some (.bool a0_7)) (wc) from⟨(I BK101.out 0).trans rfl,(I BK101.out 1).trans rfl,(I BK101.out 2).trans rfl,(I BK101.out 3).trans rfl,(I BK101.out 4).trans rfl,(I BK101.out 5).trans rfl,(I BK101.out 6).trans rfl,(I BK101.out 7).trans rfl⟩)
       obtain⟨hS0_,hS1_,hS2_,hS3_,hS4_,hS5_,hS6_,hS7_⟩:=hS_
       go_quiet (fail)
       clear hS0_ hS1_ hS2_ hS3_ hS4_ hS5_ hS6_ hS7_
       replace HO_117001:=X.mk (Kd.jw HO_117001.out nq)
       replace HO_117002:=X.mk (Kd.jw HO_117002.out nq)
       replace HO_117003:=X.mk (Kd.jw HO_117003.out nq)
       replace HO_117004:=X.mk (Kd.jw HO_117004.out nq)
       replace BK101:=X.mk (qj BK101.out nq)
       replace BK116:=X.mk (qj BK116.out nq)
       replace HB:=X.mk (U HB.out nq)
       generalize World.drewN wc nq=w57 at HO_117001 HO_117002 HO_117003 HO_117004 BK101 BK116 HB ⊢
       try go_wp2
       go_ret
       exact⟨by first|rfl|(simp[*,zv,zk] <;> rfl),by repeat(first|(with_reducible first|exact HB.out|apply O|apply U|apply L|refine qq ?_ GE101.out|refine qq ?_ GE116.out)|exact HB.out)⟩
     ·rw[if_neg c43] at H
      have c43b0:decide (1≤(a0_5.size:Int))=false:=decide_eq_false c43
      have c43b1:decide (1≤a0_5.size)=false:=decide_eq_false (by omega)
      clear c43
      obtain rfl:=Option.some.inj H
      have hnb58:=NB116_101.out
      have hnc58:=NB101_116.out
      have hcz59_0:wc.cell? ⟨gb116,0,none⟩ = some (.string t102):=(I BK116.out 0).trans rfl
      have hcz59_1:wc.cell? ⟨gb116,1,none⟩ = some (.slice Ao10 t103.length co10):=(I BK116.out 1).trans rfl
      have hcz59_2:wc.cell? ⟨gb116,2,none⟩ = some (.slice Ao11 t106.length co11):=(I BK116.out 2).trans rfl
      have hcz59_3:wc.cell? ⟨gb116,3,none⟩ = some (.slice Ao12 t109.length co12):=(I BK116.out 3).trans rfl
      have hcz59_4:wc.cell? ⟨gb116,4,none⟩ = some (.slice Ao13 t112.length co13):=(I BK116.out 4).trans rfl
      have hfz59_0:=J BK116.out 0
      have hfz59_1:=J BK116.out 1
      have hfz59_2:=J BK116.out 2
      have hfz59_3:=J BK116.out 3
      have hfz59_4:=J BK116.out 4
      try go_wp2
      have hS_:=(show(fun w'=>w'.cell? ⟨gb101,0,none⟩ = some (.slice A0_0 l0_0.length c0_0)∧w'.cell? ⟨gb101,1,none⟩ = some (.slice A0_1 l0_1.length c0_1)∧w'.cell? ⟨gb101,2,none⟩ = some (.int .i64 a0_2)∧w'.cell? ⟨gb101,3,none⟩ = some (.int .i64 a0_3)∧w'.cell? ⟨gb101,4,none⟩ = some (.string a0_4)∧w'.cell? ⟨gb101,5,none⟩ = some (.string a0_5)∧w'.cell? ⟨gb101,6,none⟩ = some (.bool a0_6)∧w'.cell? ⟨gb101,7,none⟩ = some (.bool a0_7)) (wc) from⟨(I BK101.out 0).trans rfl,(I BK101.out 1).trans rfl,(I BK101.out 2).trans rfl,(I BK101.out 3).trans rfl,(I BK101.out 4).trans rfl,(I BK101.out 5).trans rfl,(I BK101.out 6).trans rfl,(I BK101.out 7).trans rfl⟩)
      obtain⟨hS0_,hS1_,hS2_,hS3_,hS4_,hS5_,hS6_,hS7_⟩:=hS_
      go_quiet (fail)
      clear hS0_ hS1_ hS2_ hS3_ hS4_ hS5_ hS6_ hS7_
      replace HO_117001:=X.mk (Kd.jw HO_117001.out nq)
      replace HO_117002:=X.mk (Kd.jw HO_117002.out nq)
      replace HO_117003:=X.mk (Kd.jw HO_117003.out nq)
      replace HO_117004:=X.mk (Kd.jw HO_117004.out nq)
      replace BK101:=X.mk (qj BK101.out nq)
      replace BK116:=X.mk (qj BK116.out nq)
      replace HB:=X.mk (U HB.out nq)
      generalize World.drewN wc nq=w60 at HO_117001 HO_117002 HO_117003 HO_117004 BK101 BK116 HB ⊢
      try go_wp2
      go_ret
      exact⟨by first|rfl|(simp[*,zv,zk] <;> rfl),by repeat(first|(with_reducible first|exact HB.out|apply O|apply U|apply L|refine qq ?_ GE101.out|refine qq ?_ GE116.out)|exact HB.out)⟩
def qzw.f (l0:List Int) (a1:Int):Option (Int):=if (wrap64 (a1 - (l0.length:Int))) < 0 then(some (-1)) else(some (wrap64 (a1 - (l0.length:Int))))
theorem qzw.calls (A0:Option Addr) (c0:Nat) (l0:List Int) (a1:Int) (r:Int) (w:World) (hr0:Kd.C (Kd.int .u8) w A0 l0.length l0) (hc0:l0.length≤c0) (h:qzw.f l0 a1=some r) :
  Calls Try.prog 34 #[.slice A0 l0.length c0,.int .i64 a1] w fun e w'=>e=.returned (.int .i64 r)∧Drawn0 w w':=by
 have HR0:=X.mk hr0
 have HC0:=X.mk hc0
 clear hr0 hc0
 unfold qzw.f at h
 have H:=h
 clear h
 by_cases c3:(wrap64 (a1 - (l0.length:Int))) < 0
 ·rw[if_pos c3] at H
  have c3b0:decide ((wrap64 (a1 - (l0.length:Int))) < 0)=true:=decide_eq_true c3
  clear c3
  obtain rfl:=Option.some.inj H
  go_enter Try.func34,Try.ntmps34
  go_wp2
  go_ret
  exact⟨by first|rfl|(simp;done)|(simp[*];done),by repeat(first|exact Drawn0.refl _|apply Drawn0.step)⟩
 ·rw[if_neg c3] at H
  have c3b0:decide ((wrap64 (a1 - (l0.length:Int))) < 0)=false:=decide_eq_false c3
  clear c3
  obtain rfl:=Option.some.inj H
  go_enter Try.func34,Try.ntmps34
  go_wp2
  go_ret
  exact⟨by first|rfl|(simp;done)|(simp[*];done),by repeat(first|exact Drawn0.refl _|apply Drawn0.step)⟩
def qjw.l0:Nat→List Int→List Int→Int→Option (List Int)
 | 0,_,_,_=>none
 | k + 1,x0,x3,x4=>if x4 < (x0.length:Int) then(if 0≤x4 then(if x4 < (x3.length:Int) then(qjw.l0 k x0 (x3.set (x4:Int).toNat (rd x0 x4)) (wrap64 (x4 + 1))) else(none)) else(none)) else(some x3)
def qjw.f (k:Nat) (l0:List Int):Option (List Int):=if 0≤(l0.length:Int) then(if ((l0.length:Int):Int).toNat≤281474976710656 then(qjw.l0 k l0 (List.replicate ((l0.length:Int):Int).toNat 0) 0) else(none)) else(none)
theorem qjw.calls (k:Nat) (A0:Option Addr) (c0:Nat) (l0:List Int) (r:List Int) (w:World) (hr0:Kd.C (Kd.int .u8) w A0 l0.length l0) (hc0:l0.length≤c0) (h:qjw.f k l0=some r) :
  Calls Try.prog 35 #[.slice A0 l0.length c0] w fun e w'=>∃ v0_:Value,e=.returned (v0_)∧Kd.R (Kd.int .u8) 5 w' w.heap.size (fun _=>True) v0_ r∧Below w.heap.size w w':=by
 have HR0:=X.mk hr0
 have HC0:=X.mk hc0
 clear hr0 hc0
 have HB:=X.mk (Below.refl w.heap.size w)
 unfold qjw.f at h
 have H:=h
 clear h
 by_cases c2 : 0≤(l0.length:Int)
 ·rw[if_pos c2] at H
  have c2b0:=eq_true c2
  have c2b1:decide (0≤(l0.length:Int))=true:=decide_eq_true c2
  clear c2
  by_cases c3:((l0.length:Int):Int).toNat≤281474976710656
  ·rw[if_pos c3] at H
   have c3b0:=eq_true c3
   have c3b1:decide (((l0.length:Int):Int).toNat≤281474976710656)=true:=decide_eq_true c3
   clear c3
   obtain⟨y101,hy101⟩ : ∃ y_:List Int,y_=(List.replicate ((l0.length:Int):Int).toNat 0):=⟨_,rfl⟩
   replace H:(qjw.l0 k l0 y101 0)=some r:=by first|(rw[hy101];with_reducible exact H)|(have H2_:=(Option.bind_some _ _).symm.trans H;rw[hy101];with_reducible exact H2_)|(have H2_:=(Option.bind_some _ _).symm.trans H;with_reducible exact H2_)|with_reducible exact H|(rw[hy101];exact H)|exact H
   have Ny101:=X.mk hy101
   clear hy101
   have H':=X.mk H
   clear H
   go_enter Try.func35,Try.ntmps35
   go_wp2_with (first|((with_reducible refine gate_dst (N:=7) rfl ?_);refine Kd.R_make (Kd.int .u8) _ 5 rfl (N:=7) rfl 22 _ _ rfl (l0.length:Int) rfl rfl Try.underlying22 (.int .u8 0) 1 info5 rfl (by decide) (by omega) 0 (ok:=fun _=>True) (okp:=fun _=>True) rfl (fun _ hk=>hk) trivial (of_decide_eq_true (by assumption)) (Nat.le_trans (Nat.mul_le_mul_right _ (of_decide_eq_true (by assumption):(l0.length:Int).toNat≤281474976710656)) (by omega)) (Below.refl _ _) (Nat.le_refl _) ?_;intro v102 w4 ho5 hb hg_ hnew_;clear hg_ hnew_;(first|rw[← Ny101.out] at ho5|(simp only[Int.reduceToNat] at ho5;rw[← Ny101.out] at ho5));have HO103:=X.mk (Kd.R_lower ho5 (qx (by solve_by_elim only[HB.out,O,U,L])));replace HB:=X.mk (qw (by solve_by_elim only[HB.out,O,U,L]) hb);clear hb ho5))
   go_loopg [4] k (fun kq v4 w'=>∃ (x3_1:List Int) (x4_1:Int),v4=.int .i64 x4_1∧X (qjw.l0 kq l0 x3_1 x4_1=some r)∧X (kq≤k)∧X (Kd.R (Kd.int .u8) 5 w' w.heap.size (fun _=>True) v102 x3_1)∧X (Below w.heap.size w w'))
   case atStart=>exact⟨(y101),(0),(by first|rfl|(simp;done)|(simp[*];done)),H',⟨Nat.le_refl _⟩,⟨by(with_reducible repeat(first|apply Kd.zz|apply Kd.zq|apply Kd.zj));exact HO103.out⟩,⟨by repeat(first|(with_reducible first|exact HB.out|apply O|apply U|apply L)|exact HB.out)⟩⟩
   case round =>
    clear H'
    try clear c2
    try clear c2b0
    try clear c2b1
    try clear p2
    try clear c3
    try clear c3b0
    try clear c3b1
    obtain⟨x3_1,x4_1,rfl,HA,HK1,HO_3,HB⟩:=hrel
    cases gk with
    | zero=>exact absurd HA.out (by simp[qjw.l0])
    | succ k1 =>
     have H:=HA.out
     clear HA
     simp only[qjw.l0] at H
     by_cases c6:x4_1 < (l0.length:Int)
     ·rw[if_pos c6] at H
      have c6b0:decide (x4_1 < (l0.length:Int))=true:=decide_eq_true c6
      clear c6
      by_cases c7 : 0≤x4_1
      ·rw[if_pos c7] at H
       have c7b0:decide (0≤x4_1)=true:=decide_eq_true c7
       clear c7
       by_cases c8:x4_1 < (x3_1.length:Int)
       ·rw[if_pos c8] at H
        have c8b0:decide (x4_1 < (x3_1.length:Int))=true:=decide_eq_true c8
        clear c8
        obtain⟨y105,hy105⟩ : ∃ y_:List Int,y_=(x3_1.set (x4_1:Int).toNat (rd l0 x4_1)):=⟨_,rfl⟩
        replace H:(qjw.l0 k1 l0 y105 (wrap64 (x4_1 + 1)))=some r:=by first|(rw[hy105];with_reducible exact H)|(have H2_:=(Option.bind_some _ _).symm.trans H;rw[hy105];with_reducible exact H2_)|(have H2_:=(Option.bind_some _ _).symm.trans H;with_reducible exact H2_)|with_reducible exact H|(rw[hy105];exact H)|exact H
        have Ny105:=X.mk hy105
        clear hy105
        have H':=X.mk H
        clear H
        have p104 : 0≤(x4_1:Int):=of_decide_eq_true (by assumption)
        have q104:x4_1 < (l0.length:Int):=of_decide_eq_true (by assumption)
        obtain⟨ad104,e104,hx104_0⟩:=Kd.at_int HR0.out x4_1 p104 q104
        cases e104
        replace hx104_0:=(HB.out.cell (World.block_lt_of_cell? w _ hx104_0)).trans hx104_0
        replace p104:=eq_true p104
        replace q104:=eq_true q104
        have p9 : 0≤(x4_1:Int):=of_decide_eq_true (by assumption)
        have q9:(x4_1:Int) < ((x3_1.length:Int):Int):=of_decide_eq_true (by assumption)
        obtain⟨go9,co9,eo9,gb9,gl9,cl9,HG9⟩:=Kd.R_form HO_3.out (by omega)
        (first|cases eo9|(injection eo9 with ea_ en_ ec_;(first|subst ea_|(injection ea_ with ea_;subst ea_));subst ec_;clear en_))
        have GB9:=X.mk gb9
        have GG9:=X.mk HG9
        clear gb9 gl9 HG9
        obtain⟨hx9_0,hf9_0⟩:=Kd.R_celln 0 HO_3.out (x4_1:Int) p9 q9
        replace p9:=eq_true p9
        replace q9:=eq_true q9
        have HP10:=Kd.R_putg HO_3.out (x4_1:Int) (rd l0 x4_1)
        go_wp2_with (first|((with_reducible refine zx (t:=5) (p:=20) rfl ?_);refine jq (t:=5) (p:=20) (v:=?vo_w11) (w1:=(wr.setCell ⟨go9,(x4_1:Int).toNat,none⟩ (.int .u8 (rd l0 x4_1)))) ?hg ?ho ?hn ?hr ?_;(case ho=>rfl);(case hg=>rfl);(case hn=>rfl);(case hr=>first|(go_simp;done)|(go_simp;rfl));intro w11 hw;have hg:wr.grownBy w11 (some go9):=(by rw[hw];exact HP10.2);have hp_:Kd.R (Kd.int .u8) 5 w11 w.heap.size (fun _=>True) (.slice (some ⟨go9,0,none⟩) x3_1.length co9) y105:=(by rw[hw,Ny105.out];exact HP10.1);clear HP10;replace HO_3:=X.mk (hp_);replace HB:=X.mk ((by rw[hw];exact qq (HB.out) GB9.out:Below w.heap.size w w11));clear hg hw hp_))
        go_roundg k1
        case measure=>have:=HK1.out;omega
        case rel=>exact⟨(y105),(wrap64 (x4_1 + 1)),(by first|rfl|(simp;done)|(simp[*];done)),H',⟨by have:=HK1.out;omega⟩,⟨by(with_reducible repeat(first|apply Kd.zz|apply Kd.zq|apply Kd.zj));exact HO_3.out⟩,⟨by repeat(first|(with_reducible first|exact HB.out|apply O|apply U|apply L)|exact HB.out)⟩⟩
       ·rw[if_neg c8] at H
        exact absurd H (by simp)
      ·rw[if_neg c7] at H
       exact absurd H (by simp)
     ·rw[if_neg c6] at H
      have c6b0:decide (x4_1 < (l0.length:Int))=false:=decide_eq_false c6
      clear c6
      obtain rfl:=Option.some.inj H
      go_wp2
      go_ret
      exact⟨_,by first|rfl|(simp[*,zv,zk] <;> rfl),by(with_reducible repeat(first|apply Kd.zz|apply Kd.zq|apply Kd.zj));exact HO_3.out,by repeat(first|(with_reducible first|exact HB.out|apply O|apply U|apply L)|exact HB.out)⟩
  ·rw[if_neg c3] at H
   exact absurd H (by simp)
 ·rw[if_neg c2] at H
  exact absurd H (by simp)
def qqw.l0:Nat→List Int→List Int→Int→Option (Bool)
 | 0,_,_,_=>none
 | k + 1,x0,x1,x5=>if x5 < (x0.length:Int) then(if 0≤x5 then(if x5 < (x1.length:Int) then(if (rd x0 x5)=(rd x1 x5) then(qqw.l0 k x0 x1 (wrap64 (x5 + 1))) else(some false)) else(none)) else(none)) else(some true)
def qqw.f (k:Nat) (l0:List Int) (l1:List Int):Option (Bool):=if (l0.length:Int)=(l1.length:Int) then(qqw.l0 k l0 l1 0) else(some false)
theorem qqw.calls (k:Nat) (A0:Option Addr) (c0:Nat) (l0:List Int) (A1:Option Addr) (c1:Nat) (l1:List Int) (r:Bool) (w:World) (hr0:Kd.C (Kd.int .u8) w A0 l0.length l0) (hc0:l0.length≤c0) (hr1:Kd.C (Kd.int .u8) w A1 l1.length l1) (hc1:l1.length≤c1) (h:qqw.f k l0 l1=some r) :
  Calls Try.prog 36 #[.slice A0 l0.length c0,.slice A1 l1.length c1] w fun e w'=>e=.returned (.bool r)∧Drawn0 w w':=by
 have HR0:=X.mk hr0
 have HC0:=X.mk hc0
 clear hr0 hc0
 have HR1:=X.mk hr1
 have HC1:=X.mk hc1
 clear hr1 hc1
 unfold qqw.f at h
 have H:=h
 clear h
 by_cases c3:(l0.length:Int)=(l1.length:Int)
 ·rw[if_pos c3] at H
  have c3b0:((l0.length:Int) == (l1.length:Int))=true:=beq_iff_eq.mpr c3
  have c3b1:((l0.length:Int) != (l1.length:Int))=false:=bne_eq_false_iff_eq.mpr c3
  have c3b2:(l0.length == l1.length)=true:=by first|simpa using c3|(simp at c3 ⊢;omega)
  clear c3
  have H':=X.mk H
  clear H
  go_enter Try.func36,Try.ntmps36
  go_wp2
  repeat(go_quiet (fail);try go_wp2)
  go_loopg [5] k (fun kq v5 w'=>∃ (x5_1:Int),v5=.int .i64 x5_1∧X (qqw.l0 kq l0 l1 x5_1=some r)∧X (kq≤k)∧Drawn0 w w')
  case atStart=>exact⟨(0),(by first|rfl|(simp;done)|(simp[*];done)),H',⟨Nat.le_refl _⟩,by repeat(first|exact Drawn0.refl _|apply Drawn0.step)⟩
  case round =>
   clear H'
   try clear c1
   try clear p2
   try clear c3
   try clear c3b0
   try clear c3b1
   try clear c3b2
   obtain⟨x5_1,rfl,HA,HK1,⟨m1,rfl⟩⟩:=hrel
   cases gk with
   | zero=>exact absurd HA.out (by simp[qqw.l0])
   | succ k1 =>
    have H:=HA.out
    clear HA
    simp only[qqw.l0] at H
    by_cases c4:x5_1 < (l0.length:Int)
    ·rw[if_pos c4] at H
     have c4b0:decide (x5_1 < (l0.length:Int))=true:=decide_eq_true c4
     clear c4
     by_cases c5 : 0≤x5_1
     ·rw[if_pos c5] at H
      have c5b0:decide (0≤x5_1)=true:=decide_eq_true c5
      clear c5
      by_cases c6:x5_1 < (l1.length:Int)
      ·rw[if_pos c6] at H
       have c6b0:decide (x5_1 < (l1.length:Int))=true:=decide_eq_true c6
       clear c6
       by_cases c7:(rd l0 x5_1)=(rd l1 x5_1)
       ·rw[if_pos c7] at H
        have c7b0:((rd l0 x5_1) == (rd l1 x5_1))=true:=beq_iff_eq.mpr c7
        have c7b1:((rd l0 x5_1) != (rd l1 x5_1))=false:=bne_eq_false_iff_eq.mpr c7
        clear c7
        have H':=X.mk H
        clear H
        have p101 : 0≤(x5_1:Int):=of_decide_eq_true (by assumption)
        have q101:x5_1 < (l0.length:Int):=of_decide_eq_true (by assumption)
        obtain⟨ad101,e101,hx101_0⟩:=Kd.at_int HR0.out x5_1 p101 q101
        cases e101
        replace p101:=eq_true p101
        replace q101:=eq_true q101
        have p102 : 0≤(x5_1:Int):=of_decide_eq_true (by assumption)
        have q102:x5_1 < (l1.length:Int):=of_decide_eq_true (by assumption)
        obtain⟨ad102,e102,hx102_0⟩:=Kd.at_int HR1.out x5_1 p102 q102
        cases e102
        replace p102:=eq_true p102
        replace q102:=eq_true q102
        go_wp2
        repeat(go_quiet (fail);try go_wp2)
        go_roundg k1
        case measure=>have:=HK1.out;omega
        case rel=>exact⟨(wrap64 (x5_1 + 1)),(by first|rfl|(simp;done)|(simp[*];done)),H',⟨by have:=HK1.out;omega⟩,by repeat(first|exact Drawn0.refl _|apply Drawn0.step)⟩
       ·rw[if_neg c7] at H
        have c7b0:((rd l0 x5_1) == (rd l1 x5_1))=false:=beq_eq_false_iff_ne.mpr c7
        have c7b1:((rd l0 x5_1) != (rd l1 x5_1))=true:=bne_iff_ne.mpr c7
        obtain rfl:=Option.some.inj H
        have p101 : 0≤(x5_1:Int):=of_decide_eq_true (by assumption)
        have q101:x5_1 < (l0.length:Int):=of_decide_eq_true (by assumption)
        obtain⟨ad101,e101,hx101_0⟩:=Kd.at_int HR0.out x5_1 p101 q101
        cases e101
        replace p101:=eq_true p101
        replace q101:=eq_true q101
        have p102 : 0≤(x5_1:Int):=of_decide_eq_true (by assumption)
        have q102:x5_1 < (l1.length:Int):=of_decide_eq_true (by assumption)
        obtain⟨ad102,e102,hx102_0⟩:=Kd.at_int HR1.out x5_1 p102 q102
        cases e102
        replace p102:=eq_true p102
        replace q102:=eq_true q102
        go_wp2
        repeat(go_quiet (fail);try go_wp2)
        go_ret
        exact⟨by first|rfl|(simp;done)|(simp[*];done),by repeat(first|exact Drawn0.refl _|apply Drawn0.step)⟩
      ·rw[if_neg c6] at H
       exact absurd H (by simp)
     ·rw[if_neg c5] at H
      exact absurd H (by simp)
    ·rw[if_neg c4] at H
     have c4b0:decide (x5_1 < (l0.length:Int))=false:=decide_eq_false c4
     clear c4
     obtain rfl:=Option.some.inj H
     go_wp2
     repeat(go_quiet (fail);try go_wp2)
     go_ret
     exact⟨by first|rfl|(simp;done)|(simp[*];done),by repeat(first|exact Drawn0.refl _|apply Drawn0.step)⟩
 ·rw[if_neg c3] at H
  have c3b0:((l0.length:Int) == (l1.length:Int))=false:=beq_eq_false_iff_ne.mpr c3
  have c3b1:((l0.length:Int) != (l1.length:Int))=true:=bne_iff_ne.mpr c3
  have c3b2:(l0.length == l1.length)=false:=by first|simpa using c3|(simp at c3 ⊢;omega)
  obtain rfl:=Option.some.inj H
  go_enter Try.func36,Try.ntmps36
  go_wp2
  repeat(go_quiet (fail);try go_wp2)
  go_ret
  exact⟨by first|rfl|(simp;done)|(simp[*];done),by repeat(first|exact Drawn0.refl _|apply Drawn0.step)⟩
def qjz.f (l0:List Int) (a1:Int):Option (Int):=if (wrap64 (a1 - (l0.length:Int))) < 0 then(some (-1)) else(some (wrap64 (a1 - (l0.length:Int))))
theorem qjz.calls (A0:Option Addr) (c0:Nat) (l0:List Int) (a1:Int) (r:Int) (w:World) (hr0:Kd.C (Kd.int .i64) w A0 l0.length l0) (hc0:l0.length≤c0) (h:qjz.f l0 a1=some r) :
  Calls Try.prog 93 #[.slice A0 l0.length c0,.int .i64 a1] w fun e w'=>e=.returned (.int .i64 r)∧Drawn0 w w':=by
 have HR0:=X.mk hr0
 have HC0:=X.mk hc0
 clear hr0 hc0
 unfold qjz.f at h
 have H:=h
 clear h
 by_cases c3:(wrap64 (a1 - (l0.length:Int))) < 0
 ·rw[if_pos c3] at H
  have c3b0:decide ((wrap64 (a1 - (l0.length:Int))) < 0)=true:=decide_eq_true c3
  clear c3
  obtain rfl:=Option.some.inj H
  go_enter Try.func93,Try.ntmps93
  go_wp2
  go_ret
  exact⟨by first|rfl|(simp;done)|(simp[*];done),by repeat(first|exact Drawn0.refl _|apply Drawn0.step)⟩
 ·rw[if_neg c3] at H
  have c3b0:decide ((wrap64 (a1 - (l0.length:Int))) < 0)=false:=decide_eq_false c3
  clear c3
  obtain rfl:=Option.some.inj H
  go_enter Try.func93,Try.ntmps93
  go_wp2
  go_ret
  exact⟨by first|rfl|(simp;done)|(simp[*];done),by repeat(first|exact Drawn0.refl _|apply Drawn0.step)⟩
def qkz.l0:Nat→List Int→List Int→Int→Option (List Int)
 | 0,_,_,_=>none
 | k + 1,x0,x3,x4=>if x4 < (x0.length:Int) then(if 0≤x4 then(if x4 < (x3.length:Int) then(qkz.l0 k x0 (x3.set (x4:Int).toNat (rd x0 x4)) (wrap64 (x4 + 1))) else(none)) else(none)) else(some x3)
def qkz.f (k:Nat) (l0:List Int):Option (List Int):=if 0≤(l0.length:Int) then(if ((l0.length:Int):Int).toNat≤35184372088832 then(qkz.l0 k l0 (List.replicate ((l0.length:Int):Int).toNat 0) 0) else(none)) else(none)
theorem qkz.calls (k:Nat) (A0:Option Addr) (c0:Nat) (l0:List Int) (r:List Int) (w:World) (hr0:Kd.C (Kd.int .i64) w A0 l0.length l0) (hc0:l0.length≤c0) (h:qkz.f k l0=some r) :
  Calls Try.prog 95 #[.slice A0 l0.length c0] w fun e w'=>∃ v0_:Value,e=.returned (v0_)∧Kd.R (Kd.int .i64) 3 w' w.heap.size (fun _=>True) v0_ r∧Below w.heap.size w w':=by
 have HR0:=X.mk hr0
 have HC0:=X.mk hc0
 clear hr0 hc0
 have HB:=X.mk (Below.refl w.heap.size w)
 unfold qkz.f at h
 have H:=h
 clear h
 by_cases c2 : 0≤(l0.length:Int)
 ·rw[if_pos c2] at H
  have c2b0:=eq_true c2
  have c2b1:decide (0≤(l0.length:Int))=true:=decide_eq_true c2
  clear c2
  by_cases c3:((l0.length:Int):Int).toNat≤35184372088832
  ·rw[if_pos c3] at H
   have c3b0:=eq_true c3
   have c3b1:decide (((l0.length:Int):Int).toNat≤35184372088832)=true:=decide_eq_true c3
   clear c3
   obtain⟨y101,hy101⟩ : ∃ y_:List Int,y_=(List.replicate ((l0.length:Int):Int).toNat 0):=⟨_,rfl⟩
   replace H:(qkz.l0 k l0 y101 0)=some r:=by first|(rw[hy101];with_reducible exact H)|(have H2_:=(Option.bind_some _ _).symm.trans H;rw[hy101];with_reducible exact H2_)|(have H2_:=(Option.bind_some _ _).symm.trans H;with_reducible exact H2_)|with_reducible exact H|(rw[hy101];exact H)|exact H
   have Ny101:=X.mk hy101
   clear hy101
   have H':=X.mk H
   clear H
   go_enter Try.func95,Try.ntmps95
   go_wp2_with (first|((with_reducible refine gate_dst (N:=7) rfl ?_);refine Kd.R_make (Kd.int .i64) _ 3 rfl (N:=7) rfl 75 _ _ rfl (l0.length:Int) rfl rfl Try.underlying75 (.int .i64 0) 8 info3 rfl (by decide) (by omega) 0 (ok:=fun _=>True) (okp:=fun _=>True) rfl (fun _ hk=>hk) trivial (of_decide_eq_true (by assumption)) (Nat.le_trans (Nat.mul_le_mul_right _ (of_decide_eq_true (by assumption):(l0.length:Int).toNat≤35184372088832)) (by omega)) (Below.refl _ _) (Nat.le_refl _) ?_;intro v102 w4 ho5 hb hg_ hnew_;clear hg_ hnew_;(first|rw[← Ny101.out] at ho5|(simp only[Int.reduceToNat] at ho5;rw[← Ny101.out] at ho5));have HO103:=X.mk (Kd.R_lower ho5 (qx (by solve_by_elim only[HB.out,O,U,L])));replace HB:=X.mk (qw (by solve_by_elim only[HB.out,O,U,L]) hb);clear hb ho5))
   go_loopg [4] k (fun kq v4 w'=>∃ (x3_1:List Int) (x4_1:Int),v4=.int .i64 x4_1∧X (qkz.l0 kq l0 x3_1 x4_1=some r)∧X (kq≤k)∧X (Kd.R (Kd.int .i64) 3 w' w.heap.size (fun _=>True) v102 x3_1)∧X (Below w.heap.size w w'))
   case atStart=>exact⟨(y101),(0),(by first|rfl|(simp;done)|(simp[*];done)),H',⟨Nat.le_refl _⟩,⟨by(with_reducible repeat(first|apply Kd.zz|apply Kd.zq|apply Kd.zj));exact HO103.out⟩,⟨by repeat(first|(with_reducible first|exact HB.out|apply O|apply U|apply L)|exact HB.out)⟩⟩
   case round =>
    clear H'
    try clear c2
    try clear c2b0
    try clear c2b1
    try clear p2
    try clear c3
    try clear c3b0
    try clear c3b1
    obtain⟨x3_1,x4_1,rfl,HA,HK1,HO_3,HB⟩:=hrel
    cases gk with
    | zero=>exact absurd HA.out (by simp[qkz.l0])
    | succ k1 =>
     have H:=HA.out
     clear HA
     simp only[qkz.l0] at H
     by_cases c6:x4_1 < (l0.length:Int)
     ·rw[if_pos c6] at H
      have c6b0:decide (x4_1 < (l0.length:Int))=true:=decide_eq_true c6
      clear c6
      by_cases c7 : 0≤x4_1
      ·rw[if_pos c7] at H
       have c7b0:decide (0≤x4_1)=true:=decide_eq_true c7
       clear c7
       by_cases c8:x4_1 < (x3_1.length:Int)
       ·rw[if_pos c8] at H
        have c8b0:decide (x4_1 < (x3_1.length:Int))=true:=decide_eq_true c8
        clear c8
        obtain⟨y105,hy105⟩ : ∃ y_:List Int,y_=(x3_1.set (x4_1:Int).toNat (rd l0 x4_1)):=⟨_,rfl⟩
        replace H:(qkz.l0 k1 l0 y105 (wrap64 (x4_1 + 1)))=some r:=by first|(rw[hy105];with_reducible exact H)|(have H2_:=(Option.bind_some _ _).symm.trans H;rw[hy105];with_reducible exact H2_)|(have H2_:=(Option.bind_some _ _).symm.trans H;with_reducible exact H2_)|with_reducible exact H|(rw[hy105];exact H)|exact H
        have Ny105:=X.mk hy105
        clear hy105
        have H':=X.mk H
        clear H
        have p104 : 0≤(x4_1:Int):=of_decide_eq_true (by assumption)
        have q104:x4_1 < (l0.length:Int):=of_decide_eq_true (by assumption)
        obtain⟨ad104,e104,hx104_0⟩:=Kd.at_int HR0.out x4_1 p104 q104
        cases e104
        replace hx104_0:=(HB.out.cell (World.block_lt_of_cell? w _ hx104_0)).trans hx104_0
        replace p104:=eq_true p104
        replace q104:=eq_true q104
        have p9 : 0≤(x4_1:Int):=of_decide_eq_true (by assumption)
        have q9:(x4_1:Int) < ((x3_1.length:Int):Int):=of_decide_eq_true (by assumption)
        obtain⟨go9,co9,eo9,gb9,gl9,cl9,HG9⟩:=Kd.R_form HO_3.out (by omega)
        (first|cases eo9|(injection eo9 with ea_ en_ ec_;(first|subst ea_|(injection ea_ with ea_;subst ea_));subst ec_;clear en_))
        have GB9:=X.mk gb9
        have GG9:=X.mk HG9
        clear gb9 gl9 HG9
        obtain⟨hx9_0,hf9_0⟩:=Kd.R_celln 0 HO_3.out (x4_1:Int) p9 q9
        replace p9:=eq_true p9
        replace q9:=eq_true q9
        have HP10:=Kd.R_putg HO_3.out (x4_1:Int) (rd l0 x4_1)
        go_wp2_with (first|((with_reducible refine zx (t:=3) (p:=20) rfl ?_);refine jq (t:=3) (p:=20) (v:=?vo_w11) (w1:=(wr.setCell ⟨go9,(x4_1:Int).toNat,none⟩ (.int .i64 (rd l0 x4_1)))) ?hg ?ho ?hn ?hr ?_;(case ho=>rfl);(case hg=>rfl);(case hn=>rfl);(case hr=>first|(go_simp;done)|(go_simp;rfl));intro w11 hw;have hg:wr.grownBy w11 (some go9):=(by rw[hw];exact HP10.2);have hp_:Kd.R (Kd.int .i64) 3 w11 w.heap.size (fun _=>True) (.slice (some ⟨go9,0,none⟩) x3_1.length co9) y105:=(by rw[hw,Ny105.out];exact HP10.1);clear HP10;replace HO_3:=X.mk (hp_);replace HB:=X.mk ((by rw[hw];exact qq (HB.out) GB9.out:Below w.heap.size w w11));clear hg hw hp_))
        go_roundg k1
        case measure=>have:=HK1.out;omega
        case rel=>exact⟨(y105),(wrap64 (x4_1 + 1)),(by first|rfl|(simp;done)|(simp[*];done)),H',⟨by have:=HK1.out;omega⟩,⟨by(with_reducible repeat(first|apply Kd.zz|apply Kd.zq|apply Kd.zj));exact HO_3.out⟩,⟨by repeat(first|(with_reducible first|exact HB.out|apply O|apply U|apply L)|exact HB.out)⟩⟩
       ·rw[if_neg c8] at H
        exact absurd H (by simp)
      ·rw[if_neg c7] at H
       exact absurd H (by simp)
     ·rw[if_neg c6] at H
      have c6b0:decide (x4_1 < (l0.length:Int))=false:=decide_eq_false c6
      clear c6
      obtain rfl:=Option.some.inj H
      go_wp2
      go_ret
      exact⟨_,by first|rfl|(simp[*,zv,zk] <;> rfl),by(with_reducible repeat(first|apply Kd.zz|apply Kd.zq|apply Kd.zj));exact HO_3.out,by repeat(first|(with_reducible first|exact HB.out|apply O|apply U|apply L)|exact HB.out)⟩
  ·rw[if_neg c3] at H
   exact absurd H (by simp)
 ·rw[if_neg c2] at H
  exact absurd H (by simp)
def qzz.l0:Nat→List Int→List Int→Int→Option (Bool)
 | 0,_,_,_=>none
 | k + 1,x0,x1,x5=>if x5 < (x0.length:Int) then(if 0≤x5 then(if x5 < (x1.length:Int) then(if (rd x0 x5)=(rd x1 x5) then(qzz.l0 k x0 x1 (wrap64 (x5 + 1))) else(some false)) else(none)) else(none)) else(some true)
def qzz.f (k:Nat) (l0:List Int) (l1:List Int):Option (Bool):=if (l0.length:Int)=(l1.length:Int) then(qzz.l0 k l0 l1 0) else(some false)
theorem qzz.calls (k:Nat) (A0:Option Addr) (c0:Nat) (l0:List Int) (A1:Option Addr) (c1:Nat) (l1:List Int) (r:Bool) (w:World) (hr0:Kd.C (Kd.int .i64) w A0 l0.length l0) (hc0:l0.length≤c0) (hr1:Kd.C (Kd.int .i64) w A1 l1.length l1) (hc1:l1.length≤c1) (h:qzz.f k l0 l1=some r) :
  Calls Try.prog 99 #[.slice A0 l0.length c0,.slice A1 l1.length c1] w fun e w'=>e=.returned (.bool r)∧Drawn0 w w':=by
 have HR0:=X.mk hr0
 have HC0:=X.mk hc0
 clear hr0 hc0
 have HR1:=X.mk hr1
 have HC1:=X.mk hc1
 clear hr1 hc1
 unfold qzz.f at h
 have H:=h
 clear h
 by_cases c3:(l0.length:Int)=(l1.length:Int)
 ·rw[if_pos c3] at H
  have c3b0:((l0.length:Int) == (l1.length:Int))=true:=beq_iff_eq.mpr c3
  have c3b1:((l0.length:Int) != (l1.length:Int))=false:=bne_eq_false_iff_eq.mpr c3
  have c3b2:(l0.length == l1.length)=true:=by first|simpa using c3|(simp at c3 ⊢;omega)
  clear c3
  have H':=X.mk H
  clear H
  go_enter Try.func99,Try.ntmps99
  go_wp2
  repeat(go_quiet (fail);try go_wp2)
  go_loopg [5] k (fun kq v5 w'=>∃ (x5_1:Int),v5=.int .i64 x5_1∧X (qzz.l0 kq l0 l1 x5_1=some r)∧X (kq≤k)∧Drawn0 w w')
  case atStart=>exact⟨(0),(by first|rfl|(simp;done)|(simp[*];done)),H',⟨Nat.le_refl _⟩,by repeat(first|exact Drawn0.refl _|apply Drawn0.step)⟩
  case round =>
   clear H'
   try clear c1
   try clear p2
   try clear c3
   try clear c3b0
   try clear c3b1
   try clear c3b2
   obtain⟨x5_1,rfl,HA,HK1,⟨m1,rfl⟩⟩:=hrel
   cases gk with
   | zero=>exact absurd HA.out (by simp[qzz.l0])
   | succ k1 =>
    have H:=HA.out
    clear HA
    simp only[qzz.l0] at H
    by_cases c4:x5_1 < (l0.length:Int)
    ·rw[if_pos c4] at H
     have c4b0:decide (x5_1 < (l0.length:Int))=true:=decide_eq_true c4
     clear c4
     by_cases c5 : 0≤x5_1
     ·rw[if_pos c5] at H
      have c5b0:decide (0≤x5_1)=true:=decide_eq_true c5
      clear c5
      by_cases c6:x5_1 < (l1.length:Int)
      ·rw[if_pos c6] at H
       have c6b0:decide (x5_1 < (l1.length:Int))=true:=decide_eq_true c6
       clear c6
       by_cases c7:(rd l0 x5_1)=(rd l1 x5_1)
       ·rw[if_pos c7] at H
        have c7b0:((rd l0 x5_1) == (rd l1 x5_1))=true:=beq_iff_eq.mpr c7
        have c7b1:((rd l0 x5_1) != (rd l1 x5_1))=false:=bne_eq_false_iff_eq.mpr c7
        clear c7
        have H':=X.mk H
        clear H
        have p101 : 0≤(x5_1:Int):=of_decide_eq_true (by assumption)
        have q101:x5_1 < (l0.length:Int):=of_decide_eq_true (by assumption)
        obtain⟨ad101,e101,hx101_0⟩:=Kd.at_int HR0.out x5_1 p101 q101
        cases e101
        replace p101:=eq_true p101
        replace q101:=eq_true q101
        have p102 : 0≤(x5_1:Int):=of_decide_eq_true (by assumption)
        have q102:x5_1 < (l1.length:Int):=of_decide_eq_true (by assumption)
        obtain⟨ad102,e102,hx102_0⟩:=Kd.at_int HR1.out x5_1 p102 q102
        cases e102
        replace p102:=eq_true p102
        replace q102:=eq_true q102
        go_wp2
        repeat(go_quiet (fail);try go_wp2)
        go_roundg k1
        case measure=>have:=HK1.out;omega
        case rel=>exact⟨(wrap64 (x5_1 + 1)),(by first|rfl|(simp;done)|(simp[*];done)),H',⟨by have:=HK1.out;omega⟩,by repeat(first|exact Drawn0.refl _|apply Drawn0.step)⟩
       ·rw[if_neg c7] at H
        have c7b0:((rd l0 x5_1) == (rd l1 x5_1))=false:=beq_eq_false_iff_ne.mpr c7
        have c7b1:((rd l0 x5_1) != (rd l1 x5_1))=true:=bne_iff_ne.mpr c7
        obtain rfl:=Option.some.inj H
        have p101 : 0≤(x5_1:Int):=of_decide_eq_true (by assumption)
        have q101:x5_1 < (l0.length:Int):=of_decide_eq_true (by assumption)
        obtain⟨ad101,e101,hx101_0⟩:=Kd.at_int HR0.out x5_1 p101 q101
        cases e101
        replace p101:=eq_true p101
        replace q101:=eq_true q101
        have p102 : 0≤(x5_1:Int):=of_decide_eq_true (by assumption)
        have q102:x5_1 < (l1.length:Int):=of_decide_eq_true (by assumption)
        obtain⟨ad102,e102,hx102_0⟩:=Kd.at_int HR1.out x5_1 p102 q102
        cases e102
        replace p102:=eq_true p102
        replace q102:=eq_true q102
        go_wp2
        repeat(go_quiet (fail);try go_wp2)
        go_ret
        exact⟨by first|rfl|(simp;done)|(simp[*];done),by repeat(first|exact Drawn0.refl _|apply Drawn0.step)⟩
      ·rw[if_neg c6] at H
       exact absurd H (by simp)
     ·rw[if_neg c5] at H
      exact absurd H (by simp)
    ·rw[if_neg c4] at H
     have c4b0:decide (x5_1 < (l0.length:Int))=false:=decide_eq_false c4
     clear c4
     obtain rfl:=Option.some.inj H
     go_wp2
     repeat(go_quiet (fail);try go_wp2)
     go_ret
     exact⟨by first|rfl|(simp;done)|(simp[*];done),by repeat(first|exact Drawn0.refl _|apply Drawn0.step)⟩
 ·rw[if_neg c3] at H
  have c3b0:((l0.length:Int) == (l1.length:Int))=false:=beq_eq_false_iff_ne.mpr c3
  have c3b1:((l0.length:Int) != (l1.length:Int))=true:=bne_iff_ne.mpr c3
  have c3b2:(l0.length == l1.length)=false:=by first|simpa using c3|(simp at c3 ⊢;omega)
  obtain rfl:=Option.some.inj H
  go_enter Try.func99,Try.ntmps99
  go_wp2
  repeat(go_quiet (fail);try go_wp2)
  go_ret
  exact⟨by first|rfl|(simp;done)|(simp[*];done),by repeat(first|exact Drawn0.refl _|apply Drawn0.step)⟩
def qjk.l0:Nat→List ByteArray→Int→Int→Option (Int)
 | 0,_,_,_=>none
 | k + 1,x0,x1,x5=>if x5 < (x0.length:Int) then(if 0≤x5 then(if (wrap64 (x1 - ((rdOf ByteArray.empty x0 x5).size:Int))) < 0 then(some (-1)) else(qjk.l0 k x0 (wrap64 (x1 - ((rdOf ByteArray.empty x0 x5).size:Int))) (wrap64 (x5 + 1)))) else(none)) else(some x1)
def qjk.f (k:Nat) (l0:List ByteArray) (a1:Int):Option (Int):=if (wrap64 (a1 - (l0.length:Int))) < 0 then(some (-1)) else(qjk.l0 k l0 (wrap64 (a1 - (l0.length:Int))) 0)
theorem qjk.calls (k:Nat) (A0:Option Addr) (c0:Nat) (l0:List ByteArray) (a1:Int) (r:Int) (w:World) (hr0:Kd.C Kd.string w A0 l0.length l0) (hc0:l0.length≤c0) (h:qjk.f k l0 a1=some r) :
  Calls Try.prog 92 #[.slice A0 l0.length c0,.int .i64 a1] w fun e w'=>e=.returned (.int .i64 r)∧Drawn0 w w':=by
 have HR0:=X.mk hr0
 have HC0:=X.mk hc0
 clear hr0 hc0
 unfold qjk.f at h
 have H:=h
 clear h
 by_cases c3:(wrap64 (a1 - (l0.length:Int))) < 0
 ·rw[if_pos c3] at H
  have c3b0:decide ((wrap64 (a1 - (l0.length:Int))) < 0)=true:=decide_eq_true c3
  clear c3
  obtain rfl:=Option.some.inj H
  go_enter Try.func92,Try.ntmps92
  go_wp2
  go_ret
  exact⟨by first|rfl|(simp;done)|(simp[*];done),by repeat(first|exact Drawn0.refl _|apply Drawn0.step)⟩
 ·rw[if_neg c3] at H
  have c3b0:decide ((wrap64 (a1 - (l0.length:Int))) < 0)=false:=decide_eq_false c3
  clear c3
  have H':=X.mk H
  clear H
  go_enter Try.func92,Try.ntmps92
  go_wp2
  go_loopg [1,5] k (fun kq v1 v5 w'=>∃ (x1_1:Int) (x5_1:Int),v1=.int .i64 x1_1∧v5=.int .i64 x5_1∧X (qjk.l0 kq l0 x1_1 x5_1=some r)∧X (kq≤k)∧Drawn0 w w')
  case atStart=>exact⟨(wrap64 (a1 - (l0.length:Int))),(0),(by first|rfl|(simp;done)|(simp[*];done)),(by first|rfl|(simp;done)|(simp[*];done)),H',⟨Nat.le_refl _⟩,by repeat(first|exact Drawn0.refl _|apply Drawn0.step)⟩
  case round =>
   clear H'
   try clear p2
   try clear c3
   try clear c3b0
   obtain⟨x1_1,x5_1,rfl,rfl,HA,HK1,⟨m1,rfl⟩⟩:=hrel
   cases gk with
   | zero=>exact absurd HA.out (by simp[qjk.l0])
   | succ k1 =>
    have H:=HA.out
    clear HA
    simp only[qjk.l0] at H
    by_cases c4:x5_1 < (l0.length:Int)
    ·rw[if_pos c4] at H
     have c4b0:decide (x5_1 < (l0.length:Int))=true:=decide_eq_true c4
     clear c4
     by_cases c5 : 0≤x5_1
     ·rw[if_pos c5] at H
      have c5b0:decide (0≤x5_1)=true:=decide_eq_true c5
      clear c5
      by_cases c6:(wrap64 (x1_1 - ((rdOf ByteArray.empty l0 x5_1).size:Int))) < 0
      ·rw[if_pos c6] at H
       have c6b0:decide ((wrap64 (x1_1 - ((rdOf ByteArray.empty l0 x5_1).size:Int))) < 0)=true:=decide_eq_true c6
       clear c6
       obtain rfl:=Option.some.inj H
       have p101 : 0≤(x5_1:Int):=of_decide_eq_true (by assumption)
       have q101:x5_1 < (l0.length:Int):=of_decide_eq_true (by assumption)
       obtain⟨ad101,e101,hx101_0⟩:=Kd.at_string HR0.out x5_1 p101 q101
       cases e101
       replace p101:=eq_true p101
       replace q101:=eq_true q101
       go_wp2
       go_ret
       exact⟨by first|rfl|(simp;done)|(simp[*];done),by repeat(first|exact Drawn0.refl _|apply Drawn0.step)⟩
      ·rw[if_neg c6] at H
       have c6b0:decide ((wrap64 (x1_1 - ((rdOf ByteArray.empty l0 x5_1).size:Int))) < 0)=false:=decide_eq_false c6
       clear c6
       have H':=X.mk H
       clear H
       have p101 : 0≤(x5_1:Int):=of_decide_eq_true (by assumption)
       have q101:x5_1 < (l0.length:Int):=of_decide_eq_true (by assumption)
       obtain⟨ad101,e101,hx101_0⟩:=Kd.at_string HR0.out x5_1 p101 q101
       cases e101
       replace p101:=eq_true p101
       replace q101:=eq_true q101
       go_wp2
       go_roundg k1
       case measure=>have:=HK1.out;omega
       case rel=>exact⟨(wrap64 (x1_1 - ((rdOf ByteArray.empty l0 x5_1).size:Int))),(wrap64 (x5_1 + 1)),(by first|rfl|(simp;done)|(simp[*];done)),(by first|rfl|(simp;done)|(simp[*];done)),H',⟨by have:=HK1.out;omega⟩,by repeat(first|exact Drawn0.refl _|apply Drawn0.step)⟩
     ·rw[if_neg c5] at H
      exact absurd H (by simp)
    ·rw[if_neg c4] at H
     have c4b0:decide (x5_1 < (l0.length:Int))=false:=decide_eq_false c4
     clear c4
     obtain rfl:=Option.some.inj H
     go_wp2
     go_ret
     exact⟨by first|rfl|(simp;done)|(simp[*];done),by repeat(first|exact Drawn0.refl _|apply Drawn0.step)⟩
def qkk.l0:Nat→List ByteArray→List ByteArray→Int→Option (List ByteArray)
 | 0,_,_,_=>none
 | k + 1,x0,x3,x4=>if x4 < (x0.length:Int) then(if 0≤x4 then(if x4 < (x3.length:Int) then(qkk.l0 k x0 (x3.set (x4:Int).toNat (rdOf ByteArray.empty x0 x4)) (wrap64 (x4 + 1))) else(none)) else(none)) else(some x3)
def qkk.f (k:Nat) (l0:List ByteArray):Option (List ByteArray):=if 0≤(l0.length:Int) then(if ((l0.length:Int):Int).toNat≤17592186044416 then(qkk.l0 k l0 (List.replicate ((l0.length:Int):Int).toNat (⟨#[]⟩ : ByteArray)) 0) else(none)) else(none)
theorem qkk.calls (k:Nat) (A0:Option Addr) (c0:Nat) (l0:List ByteArray) (r:List ByteArray) (w:World) (hr0:Kd.C Kd.string w A0 l0.length l0) (hc0:l0.length≤c0) (h:qkk.f k l0=some r) :
  Calls Try.prog 94 #[.slice A0 l0.length c0] w fun e w'=>∃ v0_:Value,e=.returned (v0_)∧Kd.R Kd.string 9 w' w.heap.size (fun _=>True) v0_ r∧Below w.heap.size w w':=by
 have HR0:=X.mk hr0
 have HC0:=X.mk hc0
 clear hr0 hc0
 have HB:=X.mk (Below.refl w.heap.size w)
 unfold qkk.f at h
 have H:=h
 clear h
 by_cases c2 : 0≤(l0.length:Int)
 ·rw[if_pos c2] at H
  have c2b0:=eq_true c2
  have c2b1:decide (0≤(l0.length:Int))=true:=decide_eq_true c2
  clear c2
  by_cases c3:((l0.length:Int):Int).toNat≤17592186044416
  ·rw[if_pos c3] at H
   have c3b0:=eq_true c3
   have c3b1:decide (((l0.length:Int):Int).toNat≤17592186044416)=true:=decide_eq_true c3
   clear c3
   obtain⟨y101,hy101⟩ : ∃ y_:List ByteArray,y_=(List.replicate ((l0.length:Int):Int).toNat (⟨#[]⟩ : ByteArray)):=⟨_,rfl⟩
   replace H:(qkk.l0 k l0 y101 0)=some r:=by first|(rw[hy101];with_reducible exact H)|(have H2_:=(Option.bind_some _ _).symm.trans H;rw[hy101];with_reducible exact H2_)|(have H2_:=(Option.bind_some _ _).symm.trans H;with_reducible exact H2_)|with_reducible exact H|(rw[hy101];exact H)|exact H
   have Ny101:=X.mk hy101
   clear hy101
   have H':=X.mk H
   clear H
   go_enter Try.func94,Try.ntmps94
   go_wp2_with (first|((with_reducible refine gate_dst (N:=7) rfl ?_);refine Kd.R_make Kd.string _ 9 rfl (N:=7) rfl 74 _ _ rfl (l0.length:Int) rfl rfl Try.underlying74 (.string ⟨#[]⟩) 16 info9 rfl (by decide) (by omega) (⟨#[]⟩ : ByteArray) (ok:=fun _=>True) (okp:=fun _=>True) rfl (fun _ hk=>hk) trivial (of_decide_eq_true (by assumption)) (Nat.le_trans (Nat.mul_le_mul_right _ (of_decide_eq_true (by assumption):(l0.length:Int).toNat≤17592186044416)) (by omega)) (Below.refl _ _) (Nat.le_refl _) ?_;intro v102 w4 ho5 hb hg_ hnew_;clear hg_ hnew_;(first|rw[← Ny101.out] at ho5|(simp only[Int.reduceToNat] at ho5;rw[← Ny101.out] at ho5));have HO103:=X.mk (Kd.R_lower ho5 (qx (by solve_by_elim only[HB.out,O,U,L])));replace HB:=X.mk (qw (by solve_by_elim only[HB.out,O,U,L]) hb);clear hb ho5))
   go_loopg [4] k (fun kq v4 w'=>∃ (x3_1:List ByteArray) (x4_1:Int),v4=.int .i64 x4_1∧X (qkk.l0 kq l0 x3_1 x4_1=some r)∧X (kq≤k)∧X (Kd.R Kd.string 9 w' w.heap.size (fun _=>True) v102 x3_1)∧X (Below w.heap.size w w'))
   case atStart=>exact⟨(y101),(0),(by first|rfl|(simp;done)|(simp[*];done)),H',⟨Nat.le_refl _⟩,⟨by(with_reducible repeat(first|apply Kd.zz|apply Kd.zq|apply Kd.zj));exact HO103.out⟩,⟨by repeat(first|(with_reducible first|exact HB.out|apply O|apply U|apply L)|exact HB.out)⟩⟩
   case round =>
    clear H'
    try clear c2
    try clear c2b0
    try clear c2b1
    try clear p2
    try clear c3
    try clear c3b0
    try clear c3b1
    obtain⟨x3_1,x4_1,rfl,HA,HK1,HO_3,HB⟩:=hrel
    cases gk with
    | zero=>exact absurd HA.out (by simp[qkk.l0])
    | succ k1 =>
     have H:=HA.out
     clear HA
     simp only[qkk.l0] at H
     by_cases c6:x4_1 < (l0.length:Int)
     ·rw[if_pos c6] at H
      have c6b0:decide (x4_1 < (l0.length:Int))=true:=decide_eq_true c6
      clear c6
      by_cases c7 : 0≤x4_1
      ·rw[if_pos c7] at H
       have c7b0:decide (0≤x4_1)=true:=decide_eq_true c7
       clear c7
       by_cases c8:x4_1 < (x3_1.length:Int)
       ·rw[if_pos c8] at H
        have c8b0:decide (x4_1 < (x3_1.length:Int))=true:=decide_eq_true c8
        clear c8
        obtain⟨y105,hy105⟩ : ∃ y_:List ByteArray,y_=(x3_1.set (x4_1:Int).toNat (rdOf ByteArray.empty l0 x4_1)):=⟨_,rfl⟩
        replace H:(qkk.l0 k1 l0 y105 (wrap64 (x4_1 + 1)))=some r:=by first|(rw[hy105];with_reducible exact H)|(have H2_:=(Option.bind_some _ _).symm.trans H;rw[hy105];with_reducible exact H2_)|(have H2_:=(Option.bind_some _ _).symm.trans H;with_reducible exact H2_)|with_reducible exact H|(rw[hy105];exact H)|exact H
        have Ny105:=X.mk hy105
        clear hy105
        have H':=X.mk H
        clear H
        have p104 : 0≤(x4_1:Int):=of_decide_eq_true (by assumption)
        have q104:x4_1 < (l0.length:Int):=of_decide_eq_true (by assumption)
        obtain⟨ad104,e104,hx104_0⟩:=Kd.at_string HR0.out x4_1 p104 q104
        cases e104
        replace hx104_0:=(HB.out.cell (World.block_lt_of_cell? w _ hx104_0)).trans hx104_0
        replace p104:=eq_true p104
        replace q104:=eq_true q104
        have p9 : 0≤(x4_1:Int):=of_decide_eq_true (by assumption)
        have q9:(x4_1:Int) < ((x3_1.length:Int):Int):=of_decide_eq_true (by assumption)
        obtain⟨go9,co9,eo9,gb9,gl9,cl9,HG9⟩:=Kd.R_form HO_3.out (by omega)
        (first|cases eo9|(injection eo9 with ea_ en_ ec_;(first|subst ea_|(injection ea_ with ea_;subst ea_));subst ec_;clear en_))
        have GB9:=X.mk gb9
        have GG9:=X.mk HG9
        clear gb9 gl9 HG9
        obtain⟨hx9_0,hf9_0⟩:=Kd.R_celln (⟨#[]⟩ : ByteArray) HO_3.out (x4_1:Int) p9 q9
        replace p9:=eq_true p9
        replace q9:=eq_true q9
        have HP10:=Kd.R_putg HO_3.out (x4_1:Int) (rdOf ByteArray.empty l0 x4_1)
        go_wp2_with (first|((with_reducible refine zx (t:=9) (p:=20) rfl ?_);refine jq (t:=9) (p:=20) (v:=?vo_w11) (w1:=(wr.setCell ⟨go9,(x4_1:Int).toNat,none⟩ (.string (rdOf ByteArray.empty l0 x4_1)))) ?hg ?ho ?hn ?hr ?_;(case ho=>rfl);(case hg=>rfl);(case hn=>rfl);(case hr=>first|(go_simp;done)|(go_simp;rfl));intro w11 hw;have hg:wr.grownBy w11 (some go9):=(by rw[hw];exact HP10.2);have hp_:Kd.R Kd.string 9 w11 w.heap.size (fun _=>True) (.slice (some ⟨go9,0,none⟩) x3_1.length co9) y105:=(by rw[hw,Ny105.out];exact HP10.1);clear HP10;replace HO_3:=X.mk (hp_);replace HB:=X.mk ((by rw[hw];exact qq (HB.out) GB9.out:Below w.heap.size w w11));clear hg hw hp_))
        go_roundg k1
        case measure=>have:=HK1.out;omega
        case rel=>exact⟨(y105),(wrap64 (x4_1 + 1)),(by first|rfl|(simp;done)|(simp[*];done)),H',⟨by have:=HK1.out;omega⟩,⟨by(with_reducible repeat(first|apply Kd.zz|apply Kd.zq|apply Kd.zj));exact HO_3.out⟩,⟨by repeat(first|(with_reducible first|exact HB.out|apply O|apply U|apply L)|exact HB.out)⟩⟩
       ·rw[if_neg c8] at H
        exact absurd H (by simp)
      ·rw[if_neg c7] at H
       exact absurd H (by simp)
     ·rw[if_neg c6] at H
      have c6b0:decide (x4_1 < (l0.length:Int))=false:=decide_eq_false c6
      clear c6
      obtain rfl:=Option.some.inj H
      go_wp2
      go_ret
      exact⟨_,by first|rfl|(simp[*,zv,zk] <;> rfl),by(with_reducible repeat(first|apply Kd.zz|apply Kd.zq|apply Kd.zj));exact HO_3.out,by repeat(first|(with_reducible first|exact HB.out|apply O|apply U|apply L)|exact HB.out)⟩
  ·rw[if_neg c3] at H
   exact absurd H (by simp)
 ·rw[if_neg c2] at H
  exact absurd H (by simp)
def qzk.l0:Nat→List ByteArray→List ByteArray→Int→Option (Bool)
 | 0,_,_,_=>none
 | k + 1,x0,x1,x5=>if x5 < (x0.length:Int) then(if 0≤x5 then(if x5 < (x1.length:Int) then(if (rdOf ByteArray.empty x0 x5).toList=(rdOf ByteArray.empty x1 x5).toList then(qzk.l0 k x0 x1 (wrap64 (x5 + 1))) else(some false)) else(none)) else(none)) else(some true)
def qzk.f (k:Nat) (l0:List ByteArray) (l1:List ByteArray):Option (Bool):=if (l0.length:Int)=(l1.length:Int) then(qzk.l0 k l0 l1 0) else(some false)
theorem qzk.calls (k:Nat) (A0:Option Addr) (c0:Nat) (l0:List ByteArray) (A1:Option Addr) (c1:Nat) (l1:List ByteArray) (r:Bool) (w:World) (hr0:Kd.C Kd.string w A0 l0.length l0) (hc0:l0.length≤c0) (hr1:Kd.C Kd.string w A1 l1.length l1) (hc1:l1.length≤c1) (h:qzk.f k l0 l1=some r) :
  Calls Try.prog 98 #[.slice A0 l0.length c0,.slice A1 l1.length c1] w fun e w'=>e=.returned (.bool r)∧Drawn0 w w':=by
 have HR0:=X.mk hr0
 have HC0:=X.mk hc0
 clear hr0 hc0
 have HR1:=X.mk hr1
 have HC1:=X.mk hc1
 clear hr1 hc1
 unfold qzk.f at h
 have H:=h
 clear h
 by_cases c3:(l0.length:Int)=(l1.length:Int)
 ·rw[if_pos c3] at H
  have c3b0:((l0.length:Int) == (l1.length:Int))=true:=beq_iff_eq.mpr c3
  have c3b1:((l0.length:Int) != (l1.length:Int))=false:=bne_eq_false_iff_eq.mpr c3
  have c3b2:(l0.length == l1.length)=true:=by first|simpa using c3|(simp at c3 ⊢;omega)
  clear c3
  have H':=X.mk H
  clear H
  go_enter Try.func98,Try.ntmps98
  go_wp2
  repeat(go_quiet (fail);try go_wp2)
  go_loopg [5] k (fun kq v5 w'=>∃ (x5_1:Int),v5=.int .i64 x5_1∧X (qzk.l0 kq l0 l1 x5_1=some r)∧X (kq≤k)∧Drawn0 w w')
  case atStart=>exact⟨(0),(by first|rfl|(simp;done)|(simp[*];done)),H',⟨Nat.le_refl _⟩,by repeat(first|exact Drawn0.refl _|apply Drawn0.step)⟩
  case round =>
   clear H'
   try clear c1
   try clear p2
   try clear c3
   try clear c3b0
   try clear c3b1
   try clear c3b2
   obtain⟨x5_1,rfl,HA,HK1,⟨m1,rfl⟩⟩:=hrel
   cases gk with
   | zero=>exact absurd HA.out (by simp[qzk.l0])
   | succ k1 =>
    have H:=HA.out
    clear HA
    simp only[qzk.l0] at H
    by_cases c4:x5_1 < (l0.length:Int)
    ·rw[if_pos c4] at H
     have c4b0:decide (x5_1 < (l0.length:Int))=true:=decide_eq_true c4
     clear c4
     by_cases c5 : 0≤x5_1
     ·rw[if_pos c5] at H
      have c5b0:decide (0≤x5_1)=true:=decide_eq_true c5
      clear c5
      by_cases c6:x5_1 < (l1.length:Int)
      ·rw[if_pos c6] at H
       have c6b0:decide (x5_1 < (l1.length:Int))=true:=decide_eq_true c6
       clear c6
       by_cases c7:(rdOf ByteArray.empty l0 x5_1).toList=(rdOf ByteArray.empty l1 x5_1).toList
       ·rw[if_pos c7] at H
        have c7b0:((rdOf ByteArray.empty l0 x5_1).toList == (rdOf ByteArray.empty l1 x5_1).toList)=true:=beq_iff_eq.mpr c7
        have c7b1:((rdOf ByteArray.empty l0 x5_1).toList != (rdOf ByteArray.empty l1 x5_1).toList)=false:=bne_eq_false_iff_eq.mpr c7
        clear c7
        have H':=X.mk H
        clear H
        have p101 : 0≤(x5_1:Int):=of_decide_eq_true (by assumption)
        have q101:x5_1 < (l0.length:Int):=of_decide_eq_true (by assumption)
        obtain⟨ad101,e101,hx101_0⟩:=Kd.at_string HR0.out x5_1 p101 q101
        cases e101
        replace p101:=eq_true p101
        replace q101:=eq_true q101
        have p102 : 0≤(x5_1:Int):=of_decide_eq_true (by assumption)
        have q102:x5_1 < (l1.length:Int):=of_decide_eq_true (by assumption)
        obtain⟨ad102,e102,hx102_0⟩:=Kd.at_string HR1.out x5_1 p102 q102
        cases e102
        replace p102:=eq_true p102
        replace q102:=eq_true q102
        go_wp2
        repeat(go_quiet (fail);try go_wp2)
        go_roundg k1
        case measure=>have:=HK1.out;omega
        case rel=>exact⟨(wrap64 (x5_1 + 1)),(by first|rfl|(simp;done)|(simp[*];done)),H',⟨by have:=HK1.out;omega⟩,by repeat(first|exact Drawn0.refl _|apply Drawn0.step)⟩
       ·rw[if_neg c7] at H
        have c7b0:((rdOf ByteArray.empty l0 x5_1).toList == (rdOf ByteArray.empty l1 x5_1).toList)=false:=beq_eq_false_iff_ne.mpr c7
        have c7b1:((rdOf ByteArray.empty l0 x5_1).toList != (rdOf ByteArray.empty l1 x5_1).toList)=true:=bne_iff_ne.mpr c7
        obtain rfl:=Option.some.inj H
        have p101 : 0≤(x5_1:Int):=of_decide_eq_true (by assumption)
        have q101:x5_1 < (l0.length:Int):=of_decide_eq_true (by assumption)
        obtain⟨ad101,e101,hx101_0⟩:=Kd.at_string HR0.out x5_1 p101 q101
        cases e101
        replace p101:=eq_true p101
        replace q101:=eq_true q101
        have p102 : 0≤(x5_1:Int):=of_decide_eq_true (by assumption)
        have q102:x5_1 < (l1.length:Int):=of_decide_eq_true (by assumption)
        obtain⟨ad102,e102,hx102_0⟩:=Kd.at_string HR1.out x5_1 p102 q102
        cases e102
        replace p102:=eq_true p102
        replace q102:=eq_true q102
        go_wp2
        repeat(go_quiet (fail);try go_wp2)
        go_ret
        exact⟨by first|rfl|(simp;done)|(simp[*];done),by repeat(first|exact Drawn0.refl _|apply Drawn0.step)⟩
      ·rw[if_neg c6] at H
       exact absurd H (by simp)
     ·rw[if_neg c5] at H
      exact absurd H (by simp)
    ·rw[if_neg c4] at H
     have c4b0:decide (x5_1 < (l0.length:Int))=false:=decide_eq_false c4
     clear c4
     obtain rfl:=Option.some.inj H
     go_wp2
     repeat(go_quiet (fail);try go_wp2)
     go_ret
     exact⟨by first|rfl|(simp;done)|(simp[*];done),by repeat(first|exact Drawn0.refl _|apply Drawn0.step)⟩
 ·rw[if_neg c3] at H
  have c3b0:((l0.length:Int) == (l1.length:Int))=false:=beq_eq_false_iff_ne.mpr c3
  have c3b1:((l0.length:Int) != (l1.length:Int))=true:=bne_iff_ne.mpr c3
  have c3b2:(l0.length == l1.length)=false:=by first|simpa using c3|(simp at c3 ⊢;omega)
  obtain rfl:=Option.some.inj H
  go_enter Try.func98,Try.ntmps98
  go_wp2
  repeat(go_quiet (fail);try go_wp2)
  go_ret
  exact⟨by first|rfl|(simp;done)|(simp[*];done),by repeat(first|exact Drawn0.refl _|apply Drawn0.step)⟩
def qzx.f (k:Nat) (a0_0:ByteArray) (l0_1:List Int) (l0_2:List ByteArray) (l0_3:List ByteArray) (l0_4:List Int) (a1:Int):Option (Int):=if (wrap64 (a1 - (a0_0.size:Int))) < 0 then(some (-1)) else((qzw.f l0_1 (wrap64 (a1 - (a0_0.size:Int)))).bind fun t102=>(if t102 < 0 then(some (-1)) else((qjk.f k l0_2 t102).bind fun t103=>(if t103 < 0 then(some (-1)) else((qjk.f k l0_3 t103).bind fun t104=>(if t104 < 0 then(some (-1)) else((qjz.f l0_4 t104).bind fun t105=>(if t105 < 0 then(some (-1)) else(some t105)))))))))
theorem qzx.calls (k:Nat) (a0_0:ByteArray) (A0_1:Option Addr) (c0_1:Nat) (l0_1:List Int) (A0_2:Option Addr) (c0_2:Nat) (l0_2:List ByteArray) (A0_3:Option Addr) (c0_3:Nat) (l0_3:List ByteArray) (A0_4:Option Addr) (c0_4:Nat) (l0_4:List Int) (a1:Int) (r:Int) (w:World) (hr0_1:Kd.C (Kd.int .u8) w A0_1 l0_1.length l0_1) (hc0_1:l0_1.length≤c0_1) (hr0_2:Kd.C Kd.string w A0_2 l0_2.length l0_2) (hc0_2:l0_2.length≤c0_2) (hr0_3:Kd.C Kd.string w A0_3 l0_3.length l0_3) (hc0_3:l0_3.length≤c0_3) (hr0_4:Kd.C (Kd.int .i64) w A0_4 l0_4.length l0_4) (hc0_4:l0_4.length≤c0_4) (h:qzx.f k a0_0 l0_1 l0_2 l0_3 l0_4 a1=some r) :
  Calls Try.prog 72 #[.agg #[.string a0_0,.slice A0_1 l0_1.length c0_1,.slice A0_2 l0_2.length c0_2,.slice A0_3 l0_3.length c0_3,.slice A0_4 l0_4.length c0_4],.int .i64 a1] w fun e w'=>e=.returned (.int .i64 r)∧Below w.heap.size w w':=by
 have hu96:=Try.underlying96
 have HR0_1:=X.mk hr0_1
 have HC0_1:=X.mk hc0_1
 clear hr0_1 hc0_1
 have HR0_2:=X.mk hr0_2
 have HC0_2:=X.mk hc0_2
 clear hr0_2 hc0_2
 have HR0_3:=X.mk hr0_3
 have HC0_3:=X.mk hc0_3
 clear hr0_3 hc0_3
 have HR0_4:=X.mk hr0_4
 have HC0_4:=X.mk hc0_4
 clear hr0_4 hc0_4
 have HB:=X.mk (Below.refl w.heap.size w)
 unfold qzx.f at h
 have H:=h
 clear h
 by_cases c3:(wrap64 (a1 - (a0_0.size:Int))) < 0
 ·rw[if_pos c3] at H
  have c3b0:decide ((wrap64 (a1 - (a0_0.size:Int))) < 0)=true:=decide_eq_true c3
  clear c3
  obtain rfl:=Option.some.inj H
  go_enter Try.func72,Try.ntmps72
  go_wp2_with (first|((with_reducible refine gate_dst (N:=2) rfl ?_);refine box_event ?hg (N:=2) ?hd (cs:=#[.string a0_0,.slice A0_1 l0_1.length c0_1,.slice A0_2 l0_2.length c0_2,.slice A0_3 l0_3.length c0_3,.slice A0_4 l0_4.length c0_4]) (t:=96) ?hr ?_;(case hd=>rfl);(case hg=>rfl);(case hr=>first|(go_simp;done)|(go_simp;rfl));intro gb101 hg w4 hbox hb;have BK101:=X.mk (hbox);have GW101:=X.mk ((by rw[hg];exact(qx (by solve_by_elim only[HB.out,O,U,L])):w.heap.size≤gb101));have GE101:=X.mk ((by rw[hg];exact(qx (by solve_by_elim only[HB.out,O,U,L])):w.heap.size≤gb101));replace HB:=X.mk (qw (by solve_by_elim only[HB.out,O,U,L]) hb);clear hb hbox hg;have hcz5_0:w4.cell? ⟨gb101,0,none⟩ = some (.string a0_0):=(I BK101.out 0).trans rfl;have hcz5_1:w4.cell? ⟨gb101,1,none⟩ = some (.slice A0_1 l0_1.length c0_1):=(I BK101.out 1).trans rfl;have hcz5_2:w4.cell? ⟨gb101,2,none⟩ = some (.slice A0_2 l0_2.length c0_2):=(I BK101.out 2).trans rfl;have hcz5_3:w4.cell? ⟨gb101,3,none⟩ = some (.slice A0_3 l0_3.length c0_3):=(I BK101.out 3).trans rfl;have hcz5_4:w4.cell? ⟨gb101,4,none⟩ = some (.slice A0_4 l0_4.length c0_4):=(I BK101.out 4).trans rfl;have hfz5_0:=J BK101.out 0;have hfz5_1:=J BK101.out 1;have hfz5_2:=J BK101.out 2;have hfz5_3:=J BK101.out 3;have hfz5_4:=J BK101.out 4))
  go_ret
  exact⟨by first|rfl|(simp[*,zv,zk] <;> rfl),by repeat(first|(with_reducible first|exact HB.out|apply O|apply U|apply L|refine qq ?_ GE101.out)|exact HB.out)⟩
 ·rw[if_neg c3] at H
  have c3b0:decide ((wrap64 (a1 - (a0_0.size:Int))) < 0)=false:=decide_eq_false c3
  clear c3
  replace H:=jq8.mp H
  obtain⟨t102,A60,H⟩:=H
  try dsimp only at H
  have A6:=X.mk A60
  clear A60
  by_cases c7:t102 < 0
  ·rw[if_pos c7] at H
   have c7b0:decide (t102 < 0)=true:=decide_eq_true c7
   clear c7
   obtain rfl:=Option.some.inj H
   go_enter Try.func72,Try.ntmps72
   go_wp2_with (first|((with_reducible refine gate_dst (N:=2) rfl ?_);refine box_event ?hg (N:=2) ?hd (cs:=#[.string a0_0,.slice A0_1 l0_1.length c0_1,.slice A0_2 l0_2.length c0_2,.slice A0_3 l0_3.length c0_3,.slice A0_4 l0_4.length c0_4]) (t:=96) ?hr ?_;(case hd=>rfl);(case hg=>rfl);(case hr=>first|(go_simp;done)|(go_simp;rfl));intro gb101 hg w8 hbox hb;have BK101:=X.mk (hbox);have GW101:=X.mk ((by rw[hg];exact(qx (by solve_by_elim only[HB.out,O,U,L])):w.heap.size≤gb101));have GE101:=X.mk ((by rw[hg];exact(qx (by solve_by_elim only[HB.out,O,U,L])):w.heap.size≤gb101));replace HB:=X.mk (qw (by solve_by_elim only[HB.out,O,U,L]) hb);clear hb hbox hg;have hcz9_0:w8.cell? ⟨gb101,0,none⟩ = some (.string a0_0):=(I BK101.out 0).trans rfl;have hcz9_1:w8.cell? ⟨gb101,1,none⟩ = some (.slice A0_1 l0_1.length c0_1):=(I BK101.out 1).trans rfl;have hcz9_2:w8.cell? ⟨gb101,2,none⟩ = some (.slice A0_2 l0_2.length c0_2):=(I BK101.out 2).trans rfl;have hcz9_3:w8.cell? ⟨gb101,3,none⟩ = some (.slice A0_3 l0_3.length c0_3):=(I BK101.out 3).trans rfl;have hcz9_4:w8.cell? ⟨gb101,4,none⟩ = some (.slice A0_4 l0_4.length c0_4):=(I BK101.out 4).trans rfl;have hfz9_0:=J BK101.out 0;have hfz9_1:=J BK101.out 1;have hfz9_2:=J BK101.out 2;have hfz9_3:=J BK101.out 3;have hfz9_4:=J BK101.out 4)|((with_reducible refine zw (f:=34) rfl ?_);refine goesL_ (some 15) rfl rfl Try.func34 (by kernel_rfl) rfl #[.slice A0_1 l0_1.length c0_1,.int .i64 (wrap64 (a1 - (a0_0.size:Int)))] rfl (by(try simp only[jq0,jq1,jq2]);first|done|rfl|(simp only[jq3,jq4];rfl)) ?_;(with_reducible refine(qzw.calls _ _ l0_1 (wrap64 (a1 - (a0_0.size:Int))) t102 _ ?side1 ?side2 A6.out).mono ?_);(case side1=>solve_by_elim only[(Kd.C_below HR0_1.out HB.out),Kd.C_alloc,Kd.C_drewN,Kd.C_drew]);(case side2=>exact HC0_1.out);rintro e w' ⟨rfl,⟨nd,rfl⟩⟩;refine⟨_,rfl,?_⟩))
   go_ret
   exact⟨by first|rfl|(simp[*,zv,zk] <;> rfl),by repeat(first|(with_reducible first|exact HB.out|apply O|apply U|apply L|refine qq ?_ GE101.out)|exact HB.out)⟩
  ·rw[if_neg c7] at H
   have c7b0:decide (t102 < 0)=false:=decide_eq_false c7
   clear c7
   replace H:=jq8.mp H
   obtain⟨t103,A100,H⟩:=H
   try dsimp only at H
   have A10:=X.mk A100
   clear A100
   by_cases c11:t103 < 0
   ·rw[if_pos c11] at H
    have c11b0:decide (t103 < 0)=true:=decide_eq_true c11
    clear c11
    obtain rfl:=Option.some.inj H
    go_enter Try.func72,Try.ntmps72
    go_wp2_with (first|((with_reducible refine gate_dst (N:=2) rfl ?_);refine box_event ?hg (N:=2) ?hd (cs:=#[.string a0_0,.slice A0_1 l0_1.length c0_1,.slice A0_2 l0_2.length c0_2,.slice A0_3 l0_3.length c0_3,.slice A0_4 l0_4.length c0_4]) (t:=96) ?hr ?_;(case hd=>rfl);(case hg=>rfl);(case hr=>first|(go_simp;done)|(go_simp;rfl));intro gb101 hg w12 hbox hb;have BK101:=X.mk (hbox);have GW101:=X.mk ((by rw[hg];exact(qx (by solve_by_elim only[HB.out,O,U,L])):w.heap.size≤gb101));have GE101:=X.mk ((by rw[hg];exact(qx (by solve_by_elim only[HB.out,O,U,L])):w.heap.size≤gb101));replace HB:=X.mk (qw (by solve_by_elim only[HB.out,O,U,L]) hb);clear hb hbox hg;have hcz13_0:w12.cell? ⟨gb101,0,none⟩ = some (.string a0_0):=(I BK101.out 0).trans rfl;have hcz13_1:w12.cell? ⟨gb101,1,none⟩ = some (.slice A0_1 l0_1.length c0_1):=(I BK101.out 1).trans rfl;have hcz13_2:w12.cell? ⟨gb101,2,none⟩ = some (.slice A0_2 l0_2.length c0_2):=(I BK101.out 2).trans rfl;have hcz13_3:w12.cell? ⟨gb101,3,none⟩ = some (.slice A0_3 l0_3.length c0_3):=(I BK101.out 3).trans rfl;have hcz13_4:w12.cell? ⟨gb101,4,none⟩ = some (.slice A0_4 l0_4.length c0_4):=(I BK101.out 4).trans rfl;have hfz13_0:=J BK101.out 0;have hfz13_1:=J BK101.out 1;have hfz13_2:=J BK101.out 2;have hfz13_3:=J BK101.out 3;have hfz13_4:=J BK101.out 4)|((with_reducible refine zw (f:=34) rfl ?_);refine goesL_ (some 15) rfl rfl Try.func34 (by kernel_rfl) rfl #[.slice A0_1 l0_1.length c0_1,.int .i64 (wrap64 (a1 - (a0_0.size:Int)))] rfl (by(try simp only[jq0,jq1,jq2]);first|done|rfl|(simp only[jq3,jq4];rfl)) ?_;(with_reducible refine(qzw.calls _ _ l0_1 (wrap64 (a1 - (a0_0.size:Int))) t102 _ ?side1 ?side2 A6.out).mono ?_);(case side1=>solve_by_elim only[(Kd.C_below HR0_1.out HB.out),Kd.C_alloc,Kd.C_drewN,Kd.C_drew]);(case side2=>exact HC0_1.out);rintro e w' ⟨rfl,⟨nd,rfl⟩⟩;refine⟨_,rfl,?_⟩)|((with_reducible refine zw (f:=92) rfl ?_);refine goesL_ (some 21) rfl rfl Try.func92 (by kernel_rfl) rfl #[.slice A0_2 l0_2.length c0_2,.int .i64 t102] rfl (by(try simp only[jq0,jq1,jq2]);first|done|rfl|(simp only[jq3,jq4];rfl)) ?_;(with_reducible refine(qjk.calls k _ _ l0_2 t102 t103 _ ?side1 ?side2 A10.out).mono ?_);(case side1=>repeat(first|exact(Kd.C_below HR0_2.out (by solve_by_elim (maxDepth:=20) only[HB.out,O,U,L,qq,GE101.out]))|(with_reducible refine Kd.C_alloc ?_ _)|(with_reducible refine Kd.C_drewN ?_ _)|(with_reducible refine Kd.C_drew ?_)));(case side2=>exact HC0_2.out);rintro e w' ⟨rfl,⟨nd,rfl⟩⟩;refine⟨_,rfl,?_⟩))
    go_ret
    exact⟨by first|rfl|(simp[*,zv,zk] <;> rfl),by repeat(first|(with_reducible first|exact HB.out|apply O|apply U|apply L|refine qq ?_ GE101.out)|exact HB.out)⟩
   ·rw[if_neg c11] at H
    have c11b0:decide (t103 < 0)=false:=decide_eq_false c11
    clear c11
    replace H:=jq8.mp H
    obtain⟨t104,A140,H⟩:=H
    try dsimp only at H
    have A14:=X.mk A140
    clear A140
    by_cases c15:t104 < 0
    ·rw[if_pos c15] at H
     have c15b0:decide (t104 < 0)=true:=decide_eq_true c15
     clear c15
     obtain rfl:=Option.some.inj H
     go_enter Try.func72,Try.ntmps72
     go_wp2_with (first|((with_reducible refine gate_dst (N:=2) rfl ?_);refine box_event ?hg (N:=2) ?hd (cs:=#[.string a0_0,.slice A0_1 l0_1.length c0_1,.slice A0_2 l0_2.length c0_2,.slice A0_3 l0_3.length c0_3,.slice A0_4 l0_4.length c0_4]) (t:=96) ?hr ?_;(case hd=>rfl);(case hg=>rfl);(case hr=>first|(go_simp;done)|(go_simp;rfl));intro gb101 hg w16 hbox hb;have BK101:=X.mk (hbox);have GW101:=X.mk ((by rw[hg];exact(qx (by solve_by_elim only[HB.out,O,U,L])):w.heap.size≤gb101));have GE101:=X.mk ((by rw[hg];exact(qx (by solve_by_elim only[HB.out,O,U,L])):w.heap.size≤gb101));replace HB:=X.mk (qw (by solve_by_elim only[HB.out,O,U,L]) hb);clear hb hbox hg;have hcz17_0:w16.cell? ⟨gb101,0,none⟩ = some (.string a0_0):=(I BK101.out 0).trans rfl;have hcz17_1:w16.cell? ⟨gb101,1,none⟩ = some (.slice A0_1 l0_1.length c0_1):=(I BK101.out 1).trans rfl;have hcz17_2:w16.cell? ⟨gb101,2,none⟩ = some (.slice A0_2 l0_2.length c0_2):=(I BK101.out 2).trans rfl;have hcz17_3:w16.cell? ⟨gb101,3,none⟩ = some (.slice A0_3 l0_3.length c0_3):=(I BK101.out 3).trans rfl;have hcz17_4:w16.cell? ⟨gb101,4,none⟩ = some (.slice A0_4 l0_4.length c0_4):=(I BK101.out 4).trans rfl;have hfz17_0:=J BK101.out 0;have hfz17_1:=J BK101.out 1;have hfz17_2:=J BK101.out 2;have hfz17_3:=J BK101.out 3;have hfz17_4:=J BK101.out 4)|((with_reducible refine zw (f:=34) rfl ?_);refine goesL_ (some 15) rfl rfl Try.func34 (by kernel_rfl) rfl #[.slice A0_1 l0_1.length c0_1,.int .i64 (wrap64 (a1 - (a0_0.size:Int)))] rfl (by(try simp only[jq0,jq1,jq2]);first|done|rfl|(simp only[jq3,jq4];rfl)) ?_;(with_reducible refine(qzw.calls _ _ l0_1 (wrap64 (a1 - (a0_0.size:Int))) t102 _ ?side1 ?side2 A6.out).mono ?_);(case side1=>solve_by_elim only[(Kd.C_below HR0_1.out HB.out),Kd.C_alloc,Kd.C_drewN,Kd.C_drew]);(case side2=>exact HC0_1.out);rintro e w' ⟨rfl,⟨nd,rfl⟩⟩;refine⟨_,rfl,?_⟩)|((with_reducible refine zw (f:=92) rfl ?_);refine goesL_ (some 21) rfl rfl Try.func92 (by kernel_rfl) rfl #[.slice A0_2 l0_2.length c0_2,.int .i64 t102] rfl (by(try simp only[jq0,jq1,jq2]);first|done|rfl|(simp only[jq3,jq4];rfl)) ?_;(with_reducible refine(qjk.calls k _ _ l0_2 t102 t103 _ ?side1 ?side2 A10.out).mono ?_);(case side1=>repeat(first|exact(Kd.C_below HR0_2.out (by solve_by_elim (maxDepth:=20) only[HB.out,O,U,L,qq,GE101.out]))|(with_reducible refine Kd.C_alloc ?_ _)|(with_reducible refine Kd.C_drewN ?_ _)|(with_reducible refine Kd.C_drew ?_)));(case side2=>exact HC0_2.out);rintro e w' ⟨rfl,⟨nd,rfl⟩⟩;refine⟨_,rfl,?_⟩)|((with_reducible refine zw (f:=92) rfl ?_);refine goesL_ (some 27) rfl rfl Try.func92 (by kernel_rfl) rfl #[.slice A0_3 l0_3.length c0_3,.int .i64 t103] rfl (by(try simp only[jq0,jq1,jq2]);first|done|rfl|(simp only[jq3,jq4];rfl)) ?_;(with_reducible refine(qjk.calls k _ _ l0_3 t103 t104 _ ?side1 ?side2 A14.out).mono ?_);(case side1=>repeat(first|exact(Kd.C_below HR0_3.out (by solve_by_elim (maxDepth:=20) only[HB.out,O,U,L,qq,GE101.out]))|(with_reducible refine Kd.C_alloc ?_ _)|(with_reducible refine Kd.C_drewN ?_ _)|(with_reducible refine Kd.C_drew ?_)));(case side2=>exact HC0_3.out);rintro e w' ⟨rfl,⟨nd,rfl⟩⟩;refine⟨_,rfl,?_⟩))
     go_ret
     exact⟨by first|rfl|(simp[*,zv,zk] <;> rfl),by repeat(first|(with_reducible first|exact HB.out|apply O|apply U|apply L|refine qq ?_ GE101.out)|exact HB.out)⟩
    ·rw[if_neg c15] at H
     have c15b0:decide (t104 < 0)=false:=decide_eq_false c15
     clear c15
     replace H:=jq8.mp H
     obtain⟨t105,A180,H⟩:=H
     try dsimp only at H
     have A18:=X.mk A180
     clear A180
     by_cases c19:t105 < 0
     ·rw[if_pos c19] at H
      have c19b0:decide (t105 < 0)=true:=decide_eq_true c19
      clear c19
      obtain rfl:=Option.some.inj H
      go_enter Try.func72,Try.ntmps72
      go_wp2_with (first|((with_reducible refine gate_dst (N:=2) rfl ?_);refine box_event ?hg (N:=2) ?hd (cs:=#[.string a0_0,.slice A0_1 l0_1.length c0_1,.slice A0_2 l0_2.length c0_2,.slice A0_3 l0_3.length c0_3,.slice A0_4 l0_4.length c0_4]) (t:=96) ?hr ?_;(case hd=>rfl);(case hg=>rfl);(case hr=>first|(go_simp;done)|(go_simp;rfl));intro gb101 hg w20 hbox hb;have BK101:=X.mk (hbox);have GW101:=X.mk ((by rw[hg];exact(qx (by solve_by_elim only[HB.out,O,U,L])):w.heap.size≤gb101));have GE101:=X.mk ((by rw[hg];exact(qx (by solve_by_elim only[HB.out,O,U,L])):w.heap.size≤gb101));replace HB:=X.mk (qw (by solve_by_elim only[HB.out,O,U,L]) hb);clear hb hbox hg;have hcz21_0:w20.cell? ⟨gb101,0,none⟩ = some (.string a0_0):=(I BK101.out 0).trans rfl;have hcz21_1:w20.cell? ⟨gb101,1,none⟩ = some (.slice A0_1 l0_1.length c0_1):=(I BK101.out 1).trans rfl;have hcz21_2:w20.cell? ⟨gb101,2,none⟩ = some (.slice A0_2 l0_2.length c0_2):=(I BK101.out 2).trans rfl;have hcz21_3:w20.cell? ⟨gb101,3,none⟩ = some (.slice A0_3 l0_3.length c0_3):=(I BK101.out 3).trans rfl;have hcz21_4:w20.cell? ⟨gb101,4,none⟩ = some (.slice A0_4 l0_4.length c0_4):=(I BK101.out 4).trans rfl;have hfz21_0:=J BK101.out 0;have hfz21_1:=J BK101.out 1;have hfz21_2:=J BK101.out 2;have hfz21_3:=J BK101.out 3;have hfz21_4:=J BK101.out 4)|((with_reducible refine zw (f:=34) rfl ?_);refine goesL_ (some 15) rfl rfl Try.func34 (by kernel_rfl) rfl #[.slice A0_1 l0_1.length c0_1,.int .i64 (wrap64 (a1 - (a0_0.size:Int)))] rfl (by(try simp only[jq0,jq1,jq2]);first|done|rfl|(simp only[jq3,jq4];rfl)) ?_;(with_reducible refine(qzw.calls _ _ l0_1 (wrap64 (a1 - (a0_0.size:Int))) t102 _ ?side1 ?side2 A6.out).mono ?_);(case side1=>solve_by_elim only[(Kd.C_below HR0_1.out HB.out),Kd.C_alloc,Kd.C_drewN,Kd.C_drew]);(case side2=>exact HC0_1.out);rintro e w' ⟨rfl,⟨nd,rfl⟩⟩;refine⟨_,rfl,?_⟩)|((with_reducible refine zw (f:=92) rfl ?_);refine goesL_ (some 21) rfl rfl Try.func92 (by kernel_rfl) rfl #[.slice A0_2 l0_2.length c0_2,.int .i64 t102] rfl (by(try simp only[jq0,jq1,jq2]);first|done|rfl|(simp only[jq3,jq4];rfl)) ?_;(with_reducible refine(qjk.calls k _ _ l0_2 t102 t103 _ ?side1 ?side2 A10.out).mono ?_);(case side1=>repeat(first|exact(Kd.C_below HR0_2.out (by solve_by_elim (maxDepth:=20) only[HB.out,O,U,L,qq,GE101.out]))|(with_reducible refine Kd.C_alloc ?_ _)|(with_reducible refine Kd.C_drewN ?_ _)|(with_reducible refine Kd.C_drew ?_)));(case side2=>exact HC0_2.out);rintro e w' ⟨rfl,⟨nd,rfl⟩⟩;refine⟨_,rfl,?_⟩)|((with_reducible refine zw (f:=92) rfl ?_);refine goesL_ (some 27) rfl rfl Try.func92 (by kernel_rfl) rfl #[.slice A0_3 l0_3.length c0_3,.int .i64 t103] rfl (by(try simp only[jq0,jq1,jq2]);first|done|rfl|(simp only[jq3,jq4];rfl)) ?_;(with_reducible refine(qjk.calls k _ _ l0_3 t103 t104 _ ?side1 ?side2 A14.out).mono ?_);(case side1=>repeat(first|exact(Kd.C_below HR0_3.out (by solve_by_elim (maxDepth:=20) only[HB.out,O,U,L,qq,GE101.out]))|(with_reducible refine Kd.C_alloc ?_ _)|(with_reducible refine Kd.C_drewN ?_ _)|(with_reducible refine Kd.C_drew ?_)));(case side2=>exact HC0_3.out);rintro e w' ⟨rfl,⟨nd,rfl⟩⟩;refine⟨_,rfl,?_⟩)|((with_reducible refine zw (f:=93) rfl ?_);refine goesL_ (some 33) rfl rfl Try.func93 (by kernel_rfl) rfl #[.slice A0_4 l0_4.length c0_4,.int .i64 t104] rfl (by(try simp only[jq0,jq1,jq2]);first|done|rfl|(simp only[jq3,jq4];rfl)) ?_;(with_reducible refine(qjz.calls _ _ l0_4 t104 t105 _ ?side1 ?side2 A18.out).mono ?_);(case side1=>repeat(first|exact(Kd.C_below HR0_4.out (by solve_by_elim (maxDepth:=20) only[HB.out,O,U,L,qq,GE101.out]))|(with_reducible refine Kd.C_alloc ?_ _)|(with_reducible refine Kd.C_drewN ?_ _)|(with_reducible refine Kd.C_drew ?_)));(case side2=>exact HC0_4.out);rintro e w' ⟨rfl,⟨nd,rfl⟩⟩;refine⟨_,rfl,?_⟩))
      go_ret
      exact⟨by first|rfl|(simp[*,zv,zk] <;> rfl),by repeat(first|(with_reducible first|exact HB.out|apply O|apply U|apply L|refine qq ?_ GE101.out)|exact HB.out)⟩
     ·rw[if_neg c19] at H
      have c19b0:decide (t105 < 0)=false:=decide_eq_false c19
      clear c19
      obtain rfl:=Option.some.inj H
      go_enter Try.func72,Try.ntmps72
      go_wp2_with (first|((with_reducible refine gate_dst (N:=2) rfl ?_);refine box_event ?hg (N:=2) ?hd (cs:=#[.string a0_0,.slice A0_1 l0_1.length c0_1,.slice A0_2 l0_2.length c0_2,.slice A0_3 l0_3.length c0_3,.slice A0_4 l0_4.length c0_4]) (t:=96) ?hr ?_;(case hd=>rfl);(case hg=>rfl);(case hr=>first|(go_simp;done)|(go_simp;rfl));intro gb101 hg w22 hbox hb;have BK101:=X.mk (hbox);have GW101:=X.mk ((by rw[hg];exact(qx (by solve_by_elim only[HB.out,O,U,L])):w.heap.size≤gb101));have GE101:=X.mk ((by rw[hg];exact(qx (by solve_by_elim only[HB.out,O,U,L])):w.heap.size≤gb101));replace HB:=X.mk (qw (by solve_by_elim only[HB.out,O,U,L]) hb);clear hb hbox hg;have hcz23_0:w22.cell? ⟨gb101,0,none⟩ = some (.string a0_0):=(I BK101.out 0).trans rfl;have hcz23_1:w22.cell? ⟨gb101,1,none⟩ = some (.slice A0_1 l0_1.length c0_1):=(I BK101.out 1).trans rfl;have hcz23_2:w22.cell? ⟨gb101,2,none⟩ = some (.slice A0_2 l0_2.length c0_2):=(I BK101.out 2).trans rfl;have hcz23_3:w22.cell? ⟨gb101,3,none⟩ = some (.slice A0_3 l0_3.length c0_3):=(I BK101.out 3).trans rfl;have hcz23_4:w22.cell? ⟨gb101,4,none⟩ = some (.slice A0_4 l0_4.length c0_4):=(I BK101.out 4).trans rfl;have hfz23_0:=J BK101.out 0;have hfz23_1:=J BK101.out 1;have hfz23_2:=J BK101.out 2;have hfz23_3:=J BK101.out 3;have hfz23_4:=J BK101.out 4)|((with_reducible refine zw (f:=34) rfl ?_);refine goesL_ (some 15) rfl rfl Try.func34 (by kernel_rfl) rfl #[.slice A0_1 l0_1.length c0_1,.int .i64 (wrap64 (a1 - (a0_0.size:Int)))] rfl (by(try simp only[jq0,jq1,jq2]);first|done|rfl|(simp only[jq3,jq4];rfl)) ?_;(with_reducible refine(qzw.calls _ _ l0_1 (wrap64 (a1 - (a0_0.size:Int))) t102 _ ?side1 ?side2 A6.out).mono ?_);(case side1=>solve_by_elim only[(Kd.C_below HR0_1.out HB.out),Kd.C_alloc,Kd.C_drewN,Kd.C_drew]);(case side2=>exact HC0_1.out);rintro e w' ⟨rfl,⟨nd,rfl⟩⟩;refine⟨_,rfl,?_⟩)|((with_reducible refine zw (f:=92) rfl ?_);refine goesL_ (some 21) rfl rfl Try.func92 (by kernel_rfl) rfl #[.slice A0_2 l0_2.length c0_2,.int .i64 t102] rfl (by(try simp only[jq0,jq1,jq2]);first|done|rfl|(simp only[jq3,jq4];rfl)) ?_;(with_reducible refine(qjk.calls k _ _ l0_2 t102 t103 _ ?side1 ?side2 A10.out).mono ?_);(case side1=>repeat(first|exact(Kd.C_below HR0_2.out (by solve_by_elim (maxDepth:=20) only[HB.out,O,U,L,qq,GE101.out]))|(with_reducible refine Kd.C_alloc ?_ _)|(with_reducible refine Kd.C_drewN ?_ _)|(with_reducible refine Kd.C_drew ?_)));(case side2=>exact HC0_2.out);rintro e w' ⟨rfl,⟨nd,rfl⟩⟩;refine⟨_,rfl,?_⟩)|((with_reducible refine zw (f:=92) rfl ?_);refine goesL_ (some 27) rfl rfl Try.func92 (by kernel_rfl) rfl #[.slice A0_3 l0_3.length c0_3,.int .i64 t103] rfl (by(try simp only[jq0,jq1,jq2]);first|done|rfl|(simp only[jq3,jq4];rfl)) ?_;(with_reducible refine(qjk.calls k _ _ l0_3 t103 t104 _ ?side1 ?side2 A14.out).mono ?_);(case side1=>repeat(first|exact(Kd.C_below HR0_3.out (by solve_by_elim (maxDepth:=20) only[HB.out,O,U,L,qq,GE101.out]))|(with_reducible refine Kd.C_alloc ?_ _)|(with_reducible refine Kd.C_drewN ?_ _)|(with_reducible refine Kd.C_drew ?_)));(case side2=>exact HC0_3.out);rintro e w' ⟨rfl,⟨nd,rfl⟩⟩;refine⟨_,rfl,?_⟩)|((with_reducible refine zw (f:=93) rfl ?_);refine goesL_ (some 33) rfl rfl Try.func93 (by kernel_rfl) rfl #[.slice A0_4 l0_4.length c0_4,.int .i64 t104] rfl (by(try simp only[jq0,jq1,jq2]);first|done|rfl|(simp only[jq3,jq4];rfl)) ?_;(with_reducible refine(qjz.calls _ _ l0_4 t104 t105 _ ?side1 ?side2 A18.out).mono ?_);(case side1=>repeat(first|exact(Kd.C_below HR0_4.out (by solve_by_elim (maxDepth:=20) only[HB.out,O,U,L,qq,GE101.out]))|(with_reducible refine Kd.C_alloc ?_ _)|(with_reducible refine Kd.C_drewN ?_ _)|(with_reducible refine Kd.C_drew ?_)));(case side2=>exact HC0_4.out);rintro e w' ⟨rfl,⟨nd,rfl⟩⟩;refine⟨_,rfl,?_⟩))
      go_ret
      exact⟨by first|rfl|(simp[*,zv,zk] <;> rfl),by repeat(first|(with_reducible first|exact HB.out|apply O|apply U|apply L|refine qq ?_ GE101.out)|exact HB.out)⟩
def qjx.f (k:Nat) (a0_0:ByteArray) (l0_1:List Int) (l0_2:List ByteArray) (l0_3:List ByteArray) (l0_4:List Int):Option (ByteArray × List Int × List ByteArray × List ByteArray × List Int):=(qjw.f k l0_1).bind fun t104=>((qkk.f k l0_2).bind fun t107=>((qkk.f k l0_3).bind fun t110=>((qkz.f k l0_4).bind fun t113=>(some (a0_0,t104,t107,t110,t113)))))
theorem qjx.calls (k:Nat) (a0_0:ByteArray) (A0_1:Option Addr) (c0_1:Nat) (l0_1:List Int) (A0_2:Option Addr) (c0_2:Nat) (l0_2:List ByteArray) (A0_3:Option Addr) (c0_3:Nat) (l0_3:List ByteArray) (A0_4:Option Addr) (c0_4:Nat) (l0_4:List Int) (r1:ByteArray) (r2:List Int) (r3:List ByteArray) (r4:List ByteArray) (r5:List Int) (w:World) (hr0_1:Kd.C (Kd.int .u8) w A0_1 l0_1.length l0_1) (hc0_1:l0_1.length≤c0_1) (hr0_2:Kd.C Kd.string w A0_2 l0_2.length l0_2) (hc0_2:l0_2.length≤c0_2) (hr0_3:Kd.C Kd.string w A0_3 l0_3.length l0_3) (hc0_3:l0_3.length≤c0_3) (hr0_4:Kd.C (Kd.int .i64) w A0_4 l0_4.length l0_4) (hc0_4:l0_4.length≤c0_4) (h:qjx.f k a0_0 l0_1 l0_2 l0_3 l0_4=some (r1,r2,r3,r4,r5)) :
  Calls Try.prog 75 #[.agg #[.string a0_0,.slice A0_1 l0_1.length c0_1,.slice A0_2 l0_2.length c0_2,.slice A0_3 l0_3.length c0_3,.slice A0_4 l0_4.length c0_4]] w fun e w'=>∃ v1_ v2_ v3_ v4_:Value,e=.returned (.agg #[.string r1,v1_,v2_,v3_,v4_])∧Kd.R (Kd.int .u8) 5 w' w.heap.size (fun _=>True) v1_ r2∧Kd.R Kd.string 9 w' w.heap.size (fun k_=>some k_≠(v3_:Value).ownBlock) v2_ r3∧Kd.R Kd.string 9 w' w.heap.size (fun k_=>some k_≠(v2_:Value).ownBlock) v3_ r4∧Kd.R (Kd.int .i64) 3 w' w.heap.size (fun _=>True) v4_ r5∧Below w.heap.size w w':=by
 have hu96:=Try.underlying96
 have hu77:=Try.underlying77
 have HR0_1:=X.mk hr0_1
 have HC0_1:=X.mk hc0_1
 clear hr0_1 hc0_1
 have HR0_2:=X.mk hr0_2
 have HC0_2:=X.mk hc0_2
 clear hr0_2 hc0_2
 have HR0_3:=X.mk hr0_3
 have HC0_3:=X.mk hc0_3
 clear hr0_3 hc0_3
 have HR0_4:=X.mk hr0_4
 have HC0_4:=X.mk hc0_4
 clear hr0_4 hc0_4
 have HB:=X.mk (Below.refl w.heap.size w)
 unfold qjx.f at h
 have H:=h
 clear h
 replace H:=jq8.mp H
 obtain⟨t104,A20,H⟩:=H
 try dsimp only at H
 have A2:=X.mk A20
 clear A20
 replace H:=jq8.mp H
 obtain⟨t107,A30,H⟩:=H
 try dsimp only at H
 have A3:=X.mk A30
 clear A30
 replace H:=jq8.mp H
 obtain⟨t110,A40,H⟩:=H
 try dsimp only at H
 have A4:=X.mk A40
 clear A40
 replace H:=jq8.mp H
 obtain⟨t113,A50,H⟩:=H
 try dsimp only at H
 have A5:=X.mk A50
 clear A50
 simp only[Option.some.injEq,Prod.mk.injEq] at H
 obtain⟨rfl,rfl,rfl,rfl,rfl⟩:=H
 go_enter Try.func75,Try.ntmps75
 go_wp2_with (first|((with_reducible refine gate_dst (N:=1) rfl ?_);refine box_event ?hg (N:=1) ?hd (cs:=#[.string a0_0,.slice A0_1 l0_1.length c0_1,.slice A0_2 l0_2.length c0_2,.slice A0_3 l0_3.length c0_3,.slice A0_4 l0_4.length c0_4]) (t:=96) ?hr ?_;(case hd=>rfl);(case hg=>rfl);(case hr=>first|(go_simp;done)|(go_simp;rfl));intro gb101 hg w6 hbox hb;have BK101:=X.mk (hbox);have GW101:=X.mk ((by rw[hg];exact(qx (by solve_by_elim only[HB.out,O,U,L])):w.heap.size≤gb101));have GE101:=X.mk ((by rw[hg];exact(qx (by solve_by_elim only[HB.out,O,U,L])):w.heap.size≤gb101));replace HB:=X.mk (qw (by solve_by_elim only[HB.out,O,U,L]) hb);clear hb hbox hg)|((with_reducible refine gate_dst (N:=2) rfl ?_);refine box_event ?hg (N:=2) ?hd (cs:=#[.string (⟨#[]⟩ : ByteArray),.slice none 0 0,.slice none 0 0,.slice none 0 0,.slice none 0 0]) (t:=77) ?hr ?_;(case hd=>rfl);(case hg=>rfl);(case hr=>first|(go_simp;done)|(go_simp;rfl));intro gb102 hg w7 hbox hb;have BK102:=X.mk (hbox);have GW102:=X.mk ((by rw[hg];exact(qx (by solve_by_elim (maxDepth:=20) only[HB.out,O,U,L,qq,GE101.out])):w.heap.size≤gb102));have GE102:=X.mk ((by rw[hg];exact(qx (by solve_by_elim (maxDepth:=20) only[HB.out,O,U,L,qq,GE101.out])):w.heap.size≤gb102));replace HB:=X.mk (qw (by solve_by_elim (maxDepth:=20) only[HB.out,O,U,L,qq,GE101.out]) hb);have NB101_102:=X.mk ((by rw[hg];exact Nat.ne_of_lt (blk_lt (g:=gb101) (o:=.cells #[.string a0_0,.slice A0_1 l0_1.length c0_1,.slice A0_2 l0_2.length c0_2,.slice A0_3 l0_3.length c0_3,.slice A0_4 l0_4.length c0_4] 96 (0,0)) (by solve_by_elim only[BK101.out,qj,qk,qz])):gb101≠gb102));have NB102_101:=X.mk ((by rw[hg];exact Nat.ne_of_gt (blk_lt (g:=gb101) (o:=.cells #[.string a0_0,.slice A0_1 l0_1.length c0_1,.slice A0_2 l0_2.length c0_2,.slice A0_3 l0_3.length c0_3,.slice A0_4 l0_4.length c0_4] 96 (0,0)) (by solve_by_elim only[BK101.out,qj,qk,qz])):gb102≠gb101));replace BK101:=X.mk (kj (g:=gb101) (o:=.cells #[.string a0_0,.slice A0_1 l0_1.length c0_1,.slice A0_2 l0_2.length c0_2,.slice A0_3 l0_3.length c0_3,.slice A0_4 l0_4.length c0_4] 96 (0,0)) (by solve_by_elim only[BK101.out,qj,qk,qz]) hb);clear hb hbox hg)|((with_reducible refine gate_dst (N:=3) rfl ?_);refine box_event ?hg (N:=3) ?hd (cs:=#[.string (⟨#[]⟩ : ByteArray),.slice none 0 0,.slice none 0 0,.slice none 0 0,.slice none 0 0]) (t:=77) ?hr ?_;(case hd=>rfl);(case hg=>rfl);(case hr=>first|(go_simp;done)|(go_simp;rfl));intro gb103 hg w8 hbox hb;have BK103:=X.mk (hbox);have GW103:=X.mk ((by rw[hg];exact(qx (by solve_by_elim (maxDepth:=20) only[HB.out,O,U,L,qq,GE101.out,qq,GE102.out])):w.heap.size≤gb103));have GE103:=X.mk ((by rw[hg];exact(qx (by solve_by_elim (maxDepth:=20) only[HB.out,O,U,L,qq,GE101.out,qq,GE102.out])):w.heap.size≤gb103));replace HB:=X.mk (qw (by solve_by_elim (maxDepth:=20) only[HB.out,O,U,L,qq,GE101.out,qq,GE102.out]) hb);have NB101_103:=X.mk ((by rw[hg];exact Nat.ne_of_lt (blk_lt (g:=gb101) (o:=.cells #[.string a0_0,.slice A0_1 l0_1.length c0_1,.slice A0_2 l0_2.length c0_2,.slice A0_3 l0_3.length c0_3,.slice A0_4 l0_4.length c0_4] 96 (0,0)) (by solve_by_elim only[BK101.out,qj,qk,qz])):gb101≠gb103));have NB103_101:=X.mk ((by rw[hg];exact Nat.ne_of_gt (blk_lt (g:=gb101) (o:=.cells #[.string a0_0,.slice A0_1 l0_1.length c0_1,.slice A0_2 l0_2.length c0_2,.slice A0_3 l0_3.length c0_3,.slice A0_4 l0_4.length c0_4] 96 (0,0)) (by solve_by_elim only[BK101.out,qj,qk,qz])):gb103≠gb101));replace BK101:=X.mk (kj (g:=gb101) (o:=.cells #[.string a0_0,.slice A0_1 l0_1.length c0_1,.slice A0_2 l0_2.length c0_2,.slice A0_3 l0_3.length c0_3,.slice A0_4 l0_4.length c0_4] 96 (0,0)) (by solve_by_elim only[BK101.out,qj,qk,qz]) hb);have NB102_103:=X.mk ((by rw[hg];exact Nat.ne_of_lt (blk_lt (g:=gb102) (o:=.cells #[.string (⟨#[]⟩ : ByteArray),.slice none 0 0,.slice none 0 0,.slice none 0 0,.slice none 0 0] 77 (0,0)) (by solve_by_elim only[BK102.out,qj,qk,qz])):gb102≠gb103));have NB103_102:=X.mk ((by rw[hg];exact Nat.ne_of_gt (blk_lt (g:=gb102) (o:=.cells #[.string (⟨#[]⟩ : ByteArray),.slice none 0 0,.slice none 0 0,.slice none 0 0,.slice none 0 0] 77 (0,0)) (by solve_by_elim only[BK102.out,qj,qk,qz])):gb103≠gb102));replace BK102:=X.mk (kj (g:=gb102) (o:=.cells #[.string (⟨#[]⟩ : ByteArray),.slice none 0 0,.slice none 0 0,.slice none 0 0,.slice none 0 0] 77 (0,0)) (by solve_by_elim only[BK102.out,qj,qk,qz]) hb);clear hb hbox hg;have hnb9:=NB101_102.out;have hnc9:=NB102_101.out;have hnb10:=NB101_103.out;have hnc10:=NB103_101.out;have hcz11_0:w8.cell? ⟨gb101,0,none⟩ = some (.string a0_0):=(I BK101.out 0).trans rfl;have hcz11_1:w8.cell? ⟨gb101,1,none⟩ = some (.slice A0_1 l0_1.length c0_1):=(I BK101.out 1).trans rfl;have hcz11_2:w8.cell? ⟨gb101,2,none⟩ = some (.slice A0_2 l0_2.length c0_2):=(I BK101.out 2).trans rfl;have hcz11_3:w8.cell? ⟨gb101,3,none⟩ = some (.slice A0_3 l0_3.length c0_3):=(I BK101.out 3).trans rfl;have hcz11_4:w8.cell? ⟨gb101,4,none⟩ = some (.slice A0_4 l0_4.length c0_4):=(I BK101.out 4).trans rfl;have hfz11_0:=J BK101.out 0;have hfz11_1:=J BK101.out 1;have hfz11_2:=J BK101.out 2;have hfz11_3:=J BK101.out 3;have hfz11_4:=J BK101.out 4;have hnb12:=NB103_102.out;have hnc12:=NB102_103.out;have hcz13_0:w8.cell? ⟨gb103,0,none⟩ = some (.string (⟨#[]⟩ : ByteArray)):=(I BK103.out 0).trans rfl;have hcz13_1:w8.cell? ⟨gb103,1,none⟩ = some (.slice none 0 0):=(I BK103.out 1).trans rfl;have hcz13_2:w8.cell? ⟨gb103,2,none⟩ = some (.slice none 0 0):=(I BK103.out 2).trans rfl;have hcz13_3:w8.cell? ⟨gb103,3,none⟩ = some (.slice none 0 0):=(I BK103.out 3).trans rfl;have hcz13_4:w8.cell? ⟨gb103,4,none⟩ = some (.slice none 0 0):=(I BK103.out 4).trans rfl;have hfz13_0:=J BK103.out 0;have hfz13_1:=J BK103.out 1;have hfz13_2:=J BK103.out 2;have hfz13_3:=J BK103.out 3;have hfz13_4:=J BK103.out 4)|((with_reducible refine zw (f:=35) rfl ?_);refine goesL_ (some 9) rfl rfl Try.func35 (by kernel_rfl) rfl #[.slice A0_1 l0_1.length c0_1] rfl (by(try simp only[jq0,jq1,jq2]);first|done|rfl|(simp only[jq3,jq4];rfl)) ?_;(with_reducible refine(qjw.calls k _ _ l0_1 t104 _ ?side1 ?side2 A2.out).mono ?_);(case side1=>exact Kd.C_below HR0_1.out (by solve_by_elim (maxDepth:=20) only[HB.out,O,U,L,qq,GE101.out,qq,GE102.out,qq,GE103.out]));(case side2=>exact HC0_1.out);rintro e w14 ⟨v105,rfl,ho0,hb⟩;refine⟨_,rfl,?_⟩;have HO106:=X.mk (Kd.R_lower ho0 (qx (by solve_by_elim (maxDepth:=20) only[HB.out,O,U,L,qq,GE101.out,qq,GE102.out,qq,GE103.out])));replace BK101:=X.mk (kj (g:=gb101) (o:=.cells #[.string a0_0,.slice A0_1 l0_1.length c0_1,.slice A0_2 l0_2.length c0_2,.slice A0_3 l0_3.length c0_3,.slice A0_4 l0_4.length c0_4] 96 (0,0)) (by(with_reducible repeat(first|refine qj ?_ _|refine qk ?_|refine qz ?_ _));refine blk_far ?_ NB101_103.out _;(with_reducible repeat(first|refine qj ?_ _|refine qk ?_|refine qz ?_ _));exact BK101.out) hb);replace BK102:=X.mk (kj (g:=gb102) (o:=.cells #[.string (⟨#[]⟩ : ByteArray),.slice none 0 0,.slice none 0 0,.slice none 0 0,.slice none 0 0] 77 (0,0)) (by(with_reducible repeat(first|refine qj ?_ _|refine qk ?_|refine qz ?_ _));refine blk_far ?_ NB102_103.out _;(with_reducible repeat(first|refine qj ?_ _|refine qk ?_|refine qz ?_ _));exact BK102.out) hb);replace BK103:=X.mk (kj (g:=gb103) (o:=.cells #[.string a0_0,.slice none 0 0,.slice none 0 0,.slice none 0 0,.slice none 0 0] 77 (0,0)) (by(with_reducible repeat(first|refine qj ?_ _|refine qk ?_|refine qz ?_ _));refine blk_put (cs:=#[.string (⟨#[]⟩ : ByteArray),.slice none 0 0,.slice none 0 0,.slice none 0 0,.slice none 0 0]) ?_ 0 _ rfl;(with_reducible repeat(first|refine qj ?_ _|refine qk ?_|refine qz ?_ _));exact BK103.out) hb);replace HB:=X.mk (qw (by solve_by_elim (maxDepth:=20) only[HB.out,O,U,L,qq,GE101.out,qq,GE102.out,qq,GE103.out]) hb);(try clear hb ho0);obtain⟨Ao15,co15,eo15⟩:=Kd.R_slice HO106.out;subst eo15;have hcz16_0:w14.cell? ⟨gb103,0,none⟩ = some (.string a0_0):=(I BK103.out 0).trans rfl;have hcz16_1:w14.cell? ⟨gb103,1,none⟩ = some (.slice none 0 0):=(I BK103.out 1).trans rfl;have hcz16_2:w14.cell? ⟨gb103,2,none⟩ = some (.slice none 0 0):=(I BK103.out 2).trans rfl;have hcz16_3:w14.cell? ⟨gb103,3,none⟩ = some (.slice none 0 0):=(I BK103.out 3).trans rfl;have hcz16_4:w14.cell? ⟨gb103,4,none⟩ = some (.slice none 0 0):=(I BK103.out 4).trans rfl;have hfz16_0:=J BK103.out 0;have hfz16_1:=J BK103.out 1;have hfz16_2:=J BK103.out 2;have hfz16_3:=J BK103.out 3;have hfz16_4:=J BK103.out 4;have hcz17_0:w14.cell? ⟨gb101,0,none⟩ = some (.string a0_0):=(I BK101.out 0).trans rfl;have hcz17_1:w14.cell? ⟨gb101,1,none⟩ = some (.slice A0_1 l0_1.length c0_1):=(I BK101.out 1).trans rfl;have hcz17_2:w14.cell? ⟨gb101,2,none⟩ = some (.slice A0_2 l0_2.length c0_2):=(I BK101.out 2).trans rfl;have hcz17_3:w14.cell? ⟨gb101,3,none⟩ = some (.slice A0_3 l0_3.length c0_3):=(I BK101.out 3).trans rfl;have hcz17_4:w14.cell? ⟨gb101,4,none⟩ = some (.slice A0_4 l0_4.length c0_4):=(I BK101.out 4).trans rfl;have hfz17_0:=J BK101.out 0;have hfz17_1:=J BK101.out 1;have hfz17_2:=J BK101.out 2;have hfz17_3:=J BK101.out 3;have hfz17_4:=J BK101.out 4)|((with_reducible refine zw (f:=94) rfl ?_);refine goesL_ (some 13) rfl rfl Try.func94 (by kernel_rfl) rfl #[.slice A0_2 l0_2.length c0_2] rfl (by(try simp only[jq0,jq1,jq2]);first|done|rfl|(simp only[jq3,jq4];rfl)) ?_;(with_reducible refine(qkk.calls k _ _ l0_2 t107 _ ?side1 ?side2 A3.out).mono ?_);(case side1=>exact Kd.C_below HR0_2.out (by solve_by_elim (maxDepth:=20) only[HB.out,O,U,L,qq,GE101.out,qq,GE102.out,qq,GE103.out]));(case side2=>exact HC0_2.out);rintro e w18 ⟨v108,rfl,ho0,hb⟩;refine⟨_,rfl,?_⟩;replace HO106:=X.mk (Kd.R_below (by(with_reducible repeat(first|apply Kd.zz|apply Kd.zq|apply Kd.zj));exact(Kd.R_mono (Kd.R_far (p:=⟨gb103,1,none⟩) (Kd.R_types HO106.out BK103.out (by decide)) (fun _ hk=>hk.2) (.slice Ao15 t104.length co15)) (fun _ h_=>h_.1))) hb);have HO109:=X.mk (Kd.R_lower ho0 (qx (by solve_by_elim (maxDepth:=20) only[HB.out,O,U,L,qq,GE101.out,qq,GE102.out,qq,GE103.out])));replace BK101:=X.mk (kj (g:=gb101) (o:=.cells #[.string a0_0,.slice A0_1 l0_1.length c0_1,.slice A0_2 l0_2.length c0_2,.slice A0_3 l0_3.length c0_3,.slice A0_4 l0_4.length c0_4] 96 (0,0)) (by(with_reducible repeat(first|refine qj ?_ _|refine qk ?_|refine qz ?_ _));refine blk_far ?_ NB101_103.out _;(with_reducible repeat(first|refine qj ?_ _|refine qk ?_|refine qz ?_ _));exact BK101.out) hb);replace BK102:=X.mk (kj (g:=gb102) (o:=.cells #[.string (⟨#[]⟩ : ByteArray),.slice none 0 0,.slice none 0 0,.slice none 0 0,.slice none 0 0] 77 (0,0)) (by(with_reducible repeat(first|refine qj ?_ _|refine qk ?_|refine qz ?_ _));refine blk_far ?_ NB102_103.out _;(with_reducible repeat(first|refine qj ?_ _|refine qk ?_|refine qz ?_ _));exact BK102.out) hb);replace BK103:=X.mk (kj (g:=gb103) (o:=.cells #[.string a0_0,.slice Ao15 t104.length co15,.slice none 0 0,.slice none 0 0,.slice none 0 0] 77 (0,0)) (by(with_reducible repeat(first|refine qj ?_ _|refine qk ?_|refine qz ?_ _));refine blk_put (cs:=#[.string a0_0,.slice none 0 0,.slice none 0 0,.slice none 0 0,.slice none 0 0]) ?_ 1 _ rfl;(with_reducible repeat(first|refine qj ?_ _|refine qk ?_|refine qz ?_ _));exact BK103.out) hb);replace HB:=X.mk (qw (by solve_by_elim (maxDepth:=20) only[HB.out,O,U,L,qq,GE101.out,qq,GE102.out,qq,GE103.out]) hb);(try clear hb ho0);obtain⟨Ao19,co19,eo19⟩:=Kd.R_slice HO109.out;subst eo19;have hcz20_0:w18.cell? ⟨gb103,0,none⟩ = some (.string a0_0):=(I BK103.out 0).trans rfl;have hcz20_1:w18.cell? ⟨gb103,1,none⟩ = some (.slice Ao15 t104.length co15):=(I BK103.out 1).trans rfl;have hcz20_2:w18.cell? ⟨gb103,2,none⟩ = some (.slice none 0 0):=(I BK103.out 2).trans rfl;have hcz20_3:w18.cell? ⟨gb103,3,none⟩ = some (.slice none 0 0):=(I BK103.out 3).trans rfl;have hcz20_4:w18.cell? ⟨gb103,4,none⟩ = some (.slice none 0 0):=(I BK103.out 4).trans rfl;have hfz20_0:=J BK103.out 0;have hfz20_1:=J BK103.out 1;have hfz20_2:=J BK103.out 2;have hfz20_3:=J BK103.out 3;have hfz20_4:=J BK103.out 4;have hcz21_0:w18.cell? ⟨gb101,0,none⟩ = some (.string a0_0):=(I BK101.out 0).trans rfl;have hcz21_1:w18.cell? ⟨gb101,1,none⟩ = some (.slice A0_1 l0_1.length c0_1):=(I BK101.out 1).trans rfl;have hcz21_2:w18.cell? ⟨gb101,2,none⟩ = some (.slice A0_2 l0_2.length c0_2):=(I BK101.out 2).trans rfl;have hcz21_3:w18.cell? ⟨gb101,3,none⟩ = some (.slice A0_3 l0_3.length c0_3):=(I BK101.out 3).trans rfl;have hcz21_4:w18.cell? ⟨gb101,4,none⟩ = some (.slice A0_4 l0_4.length c0_4):=(I BK101.out 4).trans rfl;have hfz21_0:=J BK101.out 0;have hfz21_1:=J BK101.out 1;have hfz21_2:=J BK101.out 2;have hfz21_3:=J BK101.out 3;have hfz21_4:=J BK101.out 4)|((with_reducible refine zw (f:=94) rfl ?_);refine goesL_ (some 17) rfl rfl Try.func94 (by kernel_rfl) rfl #[.slice A0_3 l0_3.length c0_3] rfl (by(try simp only[jq0,jq1,jq2]);first|done|rfl|(simp only[jq3,jq4];rfl)) ?_;(with_reducible refine(qkk.calls k _ _ l0_3 t110 _ ?side1 ?side2 A4.out).mono ?_);(case side1=>exact Kd.C_below HR0_3.out (by solve_by_elim (maxDepth:=20) only[HB.out,O,U,L,qq,GE101.out,qq,GE102.out,qq,GE103.out]));(case side2=>exact HC0_3.out);rintro e w22 ⟨v111,rfl,ho0,hb⟩;refine⟨_,rfl,?_⟩;replace HO106:=X.mk (Kd.R_below (by(with_reducible repeat(first|apply Kd.zz|apply Kd.zq|apply Kd.zj));exact(Kd.R_mono (Kd.R_far (p:=⟨gb103,2,none⟩) (Kd.R_types HO106.out BK103.out (by decide)) (fun _ hk=>hk.2) (.slice Ao19 t107.length co19)) (fun _ h_=>h_.1))) hb);have HO112:=X.mk (Kd.R_lower (Kd.R_new' ho0 (Kd.R_lt (by(with_reducible repeat(first|apply Kd.zz|apply Kd.zq|apply Kd.zj));exact(Kd.R_mono (Kd.R_far (p:=⟨gb103,2,none⟩) (Kd.R_types HO109.out BK103.out (by decide)) (fun _ hk=>hk.2) (.slice Ao19 t107.length co19)) (fun _ h_=>h_.1))))) (qx (by solve_by_elim (maxDepth:=20) only[HB.out,O,U,L,qq,GE101.out,qq,GE102.out,qq,GE103.out])));replace HO109:=X.mk (Kd.R_elder' (by(with_reducible repeat(first|apply Kd.zz|apply Kd.zq|apply Kd.zj));exact(Kd.R_mono (Kd.R_far (p:=⟨gb103,2,none⟩) (Kd.R_types HO109.out BK103.out (by decide)) (fun _ hk=>hk.2) (.slice Ao19 t107.length co19)) (fun _ h_=>h_.1))) (Kd.R_base ho0) hb);replace BK101:=X.mk (kj (g:=gb101) (o:=.cells #[.string a0_0,.slice A0_1 l0_1.length c0_1,.slice A0_2 l0_2.length c0_2,.slice A0_3 l0_3.length c0_3,.slice A0_4 l0_4.length c0_4] 96 (0,0)) (by(with_reducible repeat(first|refine qj ?_ _|refine qk ?_|refine qz ?_ _));refine blk_far ?_ NB101_103.out _;(with_reducible repeat(first|refine qj ?_ _|refine qk ?_|refine qz ?_ _));exact BK101.out) hb);replace BK102:=X.mk (kj (g:=gb102) (o:=.cells #[.string (⟨#[]⟩ : ByteArray),.slice none 0 0,.slice none 0 0,.slice none 0 0,.slice none 0 0] 77 (0,0)) (by(with_reducible repeat(first|refine qj ?_ _|refine qk ?_|refine qz ?_ _));refine blk_far ?_ NB102_103.out _;(with_reducible repeat(first|refine qj ?_ _|refine qk ?_|refine qz ?_ _));exact BK102.out) hb);replace BK103:=X.mk (kj (g:=gb103) (o:=.cells #[.string a0_0,.slice Ao15 t104.length co15,.slice Ao19 t107.length co19,.slice none 0 0,.slice none 0 0] 77 (0,0)) (by(with_reducible repeat(first|refine qj ?_ _|refine qk ?_|refine qz ?_ _));refine blk_put (cs:=#[.string a0_0,.slice Ao15 t104.length co15,.slice none 0 0,.slice none 0 0,.slice none 0 0]) ?_ 2 _ rfl;(with_reducible repeat(first|refine qj ?_ _|refine qk ?_|refine qz ?_ _));exact BK103.out) hb);replace HB:=X.mk (qw (by solve_by_elim (maxDepth:=20) only[HB.out,O,U,L,qq,GE101.out,qq,GE102.out,qq,GE103.out]) hb);(try clear hb ho0);obtain⟨Ao23,co23,eo23⟩:=Kd.R_slice HO112.out;subst eo23;have hcz24_0:w22.cell? ⟨gb103,0,none⟩ = some (.string a0_0):=(I BK103.out 0).trans rfl;have hcz24_1:w22.cell? ⟨gb103,1,none⟩ = some (.slice Ao15 t104.length co15):=(I BK103.out 1).trans rfl;have hcz24_2:w22.cell? ⟨gb103,2,none⟩ = some (.slice Ao19 t107.length co19):=(I BK103.out 2).trans rfl;have hcz24_3:w22.cell? ⟨gb103,3,none⟩ = some (.slice none 0 0):=(I BK103.out 3).trans rfl;have hcz24_4:w22.cell? ⟨gb103,4,none⟩ = some (.slice none 0 0):=(I BK103.out 4).trans rfl;have hfz24_0:=J BK103.out 0;have hfz24_1:=J BK103.out 1;have hfz24_2:=J BK103.out 2;have hfz24_3:=J BK103.out 3;have hfz24_4:=J BK103.out 4;have hcz25_0:w22.cell? ⟨gb101,0,none⟩ = some (.string a0_0):=(I BK101.out 0).trans rfl;have hcz25_1:w22.cell? ⟨gb101,1,none⟩ = some (.slice A0_1 l0_1.length c0_1):=(I BK101.out 1).trans rfl;have hcz25_2:w22.cell? ⟨gb101,2,none⟩ = some (.slice A0_2 l0_2.length c0_2):=(I BK101.out 2).trans rfl;have hcz25_3:w22.cell? ⟨gb101,3,none⟩ = some (.slice A0_3 l0_3.length c0_3):=(I BK101.out 3).trans rfl;have hcz25_4:w22.cell? ⟨gb101,4,none⟩ = some (.slice A0_4 l0_4.length c0_4):=(I BK101.out 4).trans rfl;have hfz25_0:=J BK101.out 0;have hfz25_1:=J BK101.out 1;have hfz25_2:=J BK101.out 2;have hfz25_3:=J BK101.out 3;have hfz25_4:=J BK101.out 4)|((with_reducible refine zw (f:=95) rfl ?_);refine goesL_ (some 21) rfl rfl Try.func95 (by kernel_rfl) rfl #[.slice A0_4 l0_4.length c0_4] rfl (by(try simp only[jq0,jq1,jq2]);first|done|rfl|(simp only[jq3,jq4];rfl)) ?_;(with_reducible refine(qkz.calls k _ _ l0_4 t113 _ ?side1 ?side2 A5.out).mono ?_);(case side1=>exact Kd.C_below HR0_4.out (by solve_by_elim (maxDepth:=20) only[HB.out,O,U,L,qq,GE101.out,qq,GE102.out,qq,GE103.out]));(case side2=>exact HC0_4.out);rintro e w26 ⟨v114,rfl,ho0,hb⟩;refine⟨_,rfl,?_⟩;replace HO106:=X.mk (Kd.R_below (by(with_reducible repeat(first|apply Kd.zz|apply Kd.zq|apply Kd.zj));exact(Kd.R_mono (Kd.R_far (p:=⟨gb103,3,none⟩) (Kd.R_types HO106.out BK103.out (by decide)) (fun _ hk=>hk.2) (.slice Ao23 t110.length co23)) (fun _ h_=>h_.1))) hb);replace HO109:=X.mk (Kd.R_below (by(with_reducible repeat(first|apply Kd.zz|apply Kd.zq|apply Kd.zj));exact(Kd.R_mono (Kd.R_far (p:=⟨gb103,3,none⟩) (Kd.R_types HO109.out BK103.out (by decide)) (fun _ hk=>hk.2) (.slice Ao23 t110.length co23)) (fun _ h_=>h_.1))) hb);replace HO112:=X.mk (Kd.R_below (by(with_reducible repeat(first|apply Kd.zz|apply Kd.zq|apply Kd.zj));exact(Kd.R_mono (Kd.R_far (p:=⟨gb103,3,none⟩) (Kd.R_types HO112.out BK103.out (by decide)) (fun _ hk=>hk.2) (.slice Ao23 t110.length co23)) (fun _ h_=>h_.1))) hb);have HO115:=X.mk (Kd.R_lower ho0 (qx (by solve_by_elim (maxDepth:=20) only[HB.out,O,U,L,qq,GE101.out,qq,GE102.out,qq,GE103.out])));replace BK101:=X.mk (kj (g:=gb101) (o:=.cells #[.string a0_0,.slice A0_1 l0_1.length c0_1,.slice A0_2 l0_2.length c0_2,.slice A0_3 l0_3.length c0_3,.slice A0_4 l0_4.length c0_4] 96 (0,0)) (by(with_reducible repeat(first|refine qj ?_ _|refine qk ?_|refine qz ?_ _));refine blk_far ?_ NB101_103.out _;(with_reducible repeat(first|refine qj ?_ _|refine qk ?_|refine qz ?_ _));exact BK101.out) hb);replace BK102:=X.mk (kj (g:=gb102) (o:=.cells #[.string (⟨#[]⟩ : ByteArray),.slice none 0 0,.slice none 0 0,.slice none 0 0,.slice none 0 0] 77 (0,0)) (by(with_reducible repeat(first|refine qj ?_ _|refine qk ?_|refine qz ?_ _));refine blk_far ?_ NB102_103.out _;(with_reducible repeat(first|refine qj ?_ _|refine qk ?_|refine qz ?_ _));exact BK102.out) hb);replace BK103:=X.mk (kj (g:=gb103) (o:=.cells #[.string a0_0,.slice Ao15 t104.length co15,.slice Ao19 t107.length co19,.slice Ao23 t110.length co23,.slice none 0 0] 77 (0,0)) (by(with_reducible repeat(first|refine qj ?_ _|refine qk ?_|refine qz ?_ _));refine blk_put (cs:=#[.string a0_0,.slice Ao15 t104.length co15,.slice Ao19 t107.length co19,.slice none 0 0,.slice none 0 0]) ?_ 3 _ rfl;(with_reducible repeat(first|refine qj ?_ _|refine qk ?_|refine qz ?_ _));exact BK103.out) hb);replace HB:=X.mk (qw (by solve_by_elim (maxDepth:=20) only[HB.out,O,U,L,qq,GE101.out,qq,GE102.out,qq,GE103.out]) hb);(try clear hb ho0);obtain⟨Ao27,co27,eo27⟩:=Kd.R_slice HO115.out;subst eo27;have hcz28_0:w26.cell? ⟨gb103,0,none⟩ = some (.string a0_0):=(I BK103.out 0).trans rfl;have hcz28_1:w26.cell? ⟨gb103,1,none⟩ = some (.slice Ao15 t104.length co15):=(I BK103.out 1).trans rfl;have hcz28_2:w26.cell? ⟨gb103,2,none⟩ = some (.slice Ao19 t107.length co19):=(I BK103.out 2).trans rfl;have hcz28_3:w26.cell? ⟨gb103,3,none⟩ = some (.slice Ao23 t110.length co23):=(I BK103.out 3).trans rfl;have hcz28_4:w26.cell? ⟨gb103,4,none⟩ = some (.slice none 0 0):=(I BK103.out 4).trans rfl;have hfz28_0:=J BK103.out 0;have hfz28_1:=J BK103.out 1;have hfz28_2:=J BK103.out 2;have hfz28_3:=J BK103.out 3;have hfz28_4:=J BK103.out 4;have hcz29_0:w26.cell? ⟨gb102,0,none⟩ = some (.string (⟨#[]⟩ : ByteArray)):=(I BK102.out 0).trans rfl;have hcz29_1:w26.cell? ⟨gb102,1,none⟩ = some (.slice none 0 0):=(I BK102.out 1).trans rfl;have hcz29_2:w26.cell? ⟨gb102,2,none⟩ = some (.slice none 0 0):=(I BK102.out 2).trans rfl;have hcz29_3:w26.cell? ⟨gb102,3,none⟩ = some (.slice none 0 0):=(I BK102.out 3).trans rfl;have hcz29_4:w26.cell? ⟨gb102,4,none⟩ = some (.slice none 0 0):=(I BK102.out 4).trans rfl;have hfz29_0:=J BK102.out 0;have hfz29_1:=J BK102.out 1;have hfz29_2:=J BK102.out 2;have hfz29_3:=J BK102.out 3;have hfz29_4:=J BK102.out 4))
 refine bodyPost_ret (results_cell_row rfl _ _ gb102 77 #[.string a0_0,.slice Ao15 t104.length co15,.slice Ao19 t107.length co19,.slice Ao23 t110.length co23,.slice Ao27 t113.length co27] (0,0) _ rfl (by(with_reducible repeat(first|refine qj ?_ _|refine qk ?_|refine qz ?_ _));refine blk_put (cs:=#[.string a0_0,.slice Ao15 t104.length co15,.slice Ao19 t107.length co19,.slice Ao23 t110.length co23,.slice none 0 0]) ?_ 4 _ rfl;(with_reducible repeat(first|refine qj ?_ _|refine qk ?_|refine qz ?_ _));refine blk_put (cs:=#[.string a0_0,.slice Ao15 t104.length co15,.slice Ao19 t107.length co19,.slice none 0 0,.slice none 0 0]) ?_ 3 _ rfl;(with_reducible repeat(first|refine qj ?_ _|refine qk ?_|refine qz ?_ _));refine blk_put (cs:=#[.string a0_0,.slice Ao15 t104.length co15,.slice none 0 0,.slice none 0 0,.slice none 0 0]) ?_ 2 _ rfl;(with_reducible repeat(first|refine qj ?_ _|refine qk ?_|refine qz ?_ _));refine blk_put (cs:=#[.string a0_0,.slice none 0 0,.slice none 0 0,.slice none 0 0,.slice none 0 0]) ?_ 1 _ rfl;(with_reducible repeat(first|refine qj ?_ _|refine qk ?_|refine qz ?_ _));refine blk_put (cs:=#[.string (⟨#[]⟩ : ByteArray),.slice none 0 0,.slice none 0 0,.slice none 0 0,.slice none 0 0]) ?_ 0 _ rfl;(with_reducible repeat(first|refine qj ?_ _|refine qk ?_|refine qz ?_ _));refine blk_far ?_ NB102_103.out _;(with_reducible repeat(first|refine qj ?_ _|refine qk ?_|refine qz ?_ _));exact BK102.out) Try.underlying77 rfl (by kernel_rfl)) rfl ?_
 exact⟨_,_,_,_,by first|rfl|(simp[*,zv,zk] <;> rfl),by(with_reducible repeat(first|apply Kd.zz|apply Kd.zq|apply Kd.zj));exact Kd.R_mono (Kd.R_far (p:=⟨gb102,4,none⟩) (Kd.R_far (p:=⟨gb102,3,none⟩) (Kd.R_far (p:=⟨gb102,2,none⟩) (Kd.R_far (p:=⟨gb102,1,none⟩) (Kd.R_far (p:=⟨gb102,0,none⟩) (Kd.R_far (p:=⟨gb103,4,none⟩) (Kd.R_types (Kd.R_types HO106.out BK103.out (by decide)) BK102.out (by decide)) (fun _ hk=>hk.1.2) (.slice Ao27 t113.length co27)) (fun _ hk=>hk.2) (.string a0_0)) (fun _ hk=>hk.2) (.slice Ao15 t104.length co15)) (fun _ hk=>hk.2) (.slice Ao19 t107.length co19)) (fun _ hk=>hk.2) (.slice Ao23 t110.length co23)) (fun _ hk=>hk.2) (.slice Ao27 t113.length co27)) (fun _ hk=>trivial),by(with_reducible repeat(first|apply Kd.zz|apply Kd.zq|apply Kd.zj));exact Kd.R_mono (Kd.R_far (p:=⟨gb102,4,none⟩) (Kd.R_far (p:=⟨gb102,3,none⟩) (Kd.R_far (p:=⟨gb102,2,none⟩) (Kd.R_far (p:=⟨gb102,1,none⟩) (Kd.R_far (p:=⟨gb102,0,none⟩) (Kd.R_far (p:=⟨gb103,4,none⟩) (Kd.R_types (Kd.R_types HO109.out BK103.out (by decide)) BK102.out (by decide)) (fun _ hk=>hk.1.2) (.slice Ao27 t113.length co27)) (fun _ hk=>hk.2) (.string a0_0)) (fun _ hk=>hk.2) (.slice Ao15 t104.length co15)) (fun _ hk=>hk.2) (.slice Ao19 t107.length co19)) (fun _ hk=>hk.2) (.slice Ao23 t110.length co23)) (fun _ hk=>hk.2) (.slice Ao27 t113.length co27)) (fun _ hk=>hk.1.1.2),by(with_reducible repeat(first|apply Kd.zz|apply Kd.zq|apply Kd.zj));exact Kd.R_mono (Kd.R_far (p:=⟨gb102,4,none⟩) (Kd.R_far (p:=⟨gb102,3,none⟩) (Kd.R_far (p:=⟨gb102,2,none⟩) (Kd.R_far (p:=⟨gb102,1,none⟩) (Kd.R_far (p:=⟨gb102,0,none⟩) (Kd.R_far (p:=⟨gb103,4,none⟩) (Kd.R_types (Kd.R_types HO112.out BK103.out (by decide)) BK102.out (by decide)) (fun _ hk=>hk.1.2) (.slice Ao27 t113.length co27)) (fun _ hk=>hk.2) (.string a0_0)) (fun _ hk=>hk.2) (.slice Ao15 t104.length co15)) (fun _ hk=>hk.2) (.slice Ao19 t107.length co19)) (fun _ hk=>hk.2) (.slice Ao23 t110.length co23)) (fun _ hk=>hk.2) (.slice Ao27 t113.length co27)) (fun _ hk=>hk.1.1.2),by(with_reducible repeat(first|apply Kd.zz|apply Kd.zq|apply Kd.zj));exact Kd.R_mono (Kd.R_far (p:=⟨gb102,4,none⟩) (Kd.R_far (p:=⟨gb102,3,none⟩) (Kd.R_far (p:=⟨gb102,2,none⟩) (Kd.R_far (p:=⟨gb102,1,none⟩) (Kd.R_far (p:=⟨gb102,0,none⟩) (Kd.R_far (p:=⟨gb103,4,none⟩) (Kd.R_types (Kd.R_types HO115.out BK103.out (by decide)) BK102.out (by decide)) (fun _ hk=>hk.1.2) (.slice Ao27 t113.length co27)) (fun _ hk=>hk.2) (.string a0_0)) (fun _ hk=>hk.2) (.slice Ao15 t104.length co15)) (fun _ hk=>hk.2) (.slice Ao19 t107.length co19)) (fun _ hk=>hk.2) (.slice Ao23 t110.length co23)) (fun _ hk=>hk.2) (.slice Ao27 t113.length co27)) (fun _ hk=>trivial),by repeat(first|(with_reducible first|exact HB.out|apply O|apply U|apply L|refine qq ?_ GE101.out|refine qq ?_ GE102.out|refine qq ?_ GE103.out)|exact HB.out)⟩
def qqx.f (k:Nat) (a0_0:ByteArray) (l0_1:List Int) (l0_2:List ByteArray) (l0_3:List ByteArray) (l0_4:List Int) (a1_0:ByteArray) (l1_1:List Int) (l1_2:List ByteArray) (l1_3:List ByteArray) (l1_4:List Int):Option (Bool):=if a0_0.toList=a1_0.toList then((qqw.f k l0_1 l1_1).bind fun t103=>(if t103=true then((qzk.f k l0_2 l1_2).bind fun t104=>(if t104=true then((qzk.f k l0_3 l1_3).bind fun t105=>(if t105=true then((qzz.f k l0_4 l1_4).bind fun t106=>(if t106=true then(some true) else(some false))) else(some false))) else(some false))) else(some false))) else(some false)
theorem qqx.calls (k:Nat) (a0_0:ByteArray) (A0_1:Option Addr) (c0_1:Nat) (l0_1:List Int) (A0_2:Option Addr) (c0_2:Nat) (l0_2:List ByteArray) (A0_3:Option Addr) (c0_3:Nat) (l0_3:List ByteArray) (A0_4:Option Addr) (c0_4:Nat) (l0_4:List Int) (a1_0:ByteArray) (A1_1:Option Addr) (c1_1:Nat) (l1_1:List Int) (A1_2:Option Addr) (c1_2:Nat) (l1_2:List ByteArray) (A1_3:Option Addr) (c1_3:Nat) (l1_3:List ByteArray) (A1_4:Option Addr) (c1_4:Nat) (l1_4:List Int) (r:Bool) (w:World) (hr0_1:Kd.C (Kd.int .u8) w A0_1 l0_1.length l0_1) (hc0_1:l0_1.length≤c0_1) (hr0_2:Kd.C Kd.string w A0_2 l0_2.length l0_2) (hc0_2:l0_2.length≤c0_2) (hr0_3:Kd.C Kd.string w A0_3 l0_3.length l0_3) (hc0_3:l0_3.length≤c0_3) (hr0_4:Kd.C (Kd.int .i64) w A0_4 l0_4.length l0_4) (hc0_4:l0_4.length≤c0_4) (hr1_1:Kd.C (Kd.int .u8) w A1_1 l1_1.length l1_1) (hc1_1:l1_1.length≤c1_1) (hr1_2:Kd.C Kd.string w A1_2 l1_2.length l1_2) (hc1_2:l1_2.length≤c1_2) (hr1_3:Kd.C Kd.string w A1_3 l1_3.length l1_3) (hc1_3:l1_3.length≤c1_3) (hr1_4:Kd.C (Kd.int .i64) w A1_4 l1_4.length l1_4) (hc1_4:l1_4.length≤c1_4) (h:qqx.f k a0_0 l0_1 l0_2 l0_3 l0_4 a1_0 l1_1 l1_2 l1_3 l1_4=some r) :
  Calls Try.prog 80 #[.agg #[.string a0_0,.slice A0_1 l0_1.length c0_1,.slice A0_2 l0_2.length c0_2,.slice A0_3 l0_3.length c0_3,.slice A0_4 l0_4.length c0_4],.agg #[.string a1_0,.slice A1_1 l1_1.length c1_1,.slice A1_2 l1_2.length c1_2,.slice A1_3 l1_3.length c1_3,.slice A1_4 l1_4.length c1_4]] w fun e w'=>e=.returned (.bool r)∧Below w.heap.size w w':=by
 have hu77:=Try.underlying77
 have HR0_1:=X.mk hr0_1
 have HC0_1:=X.mk hc0_1
 clear hr0_1 hc0_1
 have HR0_2:=X.mk hr0_2
 have HC0_2:=X.mk hc0_2
 clear hr0_2 hc0_2
 have HR0_3:=X.mk hr0_3
 have HC0_3:=X.mk hc0_3
 clear hr0_3 hc0_3
 have HR0_4:=X.mk hr0_4
 have HC0_4:=X.mk hc0_4
 clear hr0_4 hc0_4
 have HR1_1:=X.mk hr1_1
 have HC1_1:=X.mk hc1_1
 clear hr1_1 hc1_1
 have HR1_2:=X.mk hr1_2
 have HC1_2:=X.mk hc1_2
 clear hr1_2 hc1_2
 have HR1_3:=X.mk hr1_3
 have HC1_3:=X.mk hc1_3
 clear hr1_3 hc1_3
 have HR1_4:=X.mk hr1_4
 have HC1_4:=X.mk hc1_4
 clear hr1_4 hc1_4
 have HB:=X.mk (Below.refl w.heap.size w)
 unfold qqx.f at h
 have H:=h
 clear h
 by_cases c3:a0_0.toList=a1_0.toList
 ·rw[if_pos c3] at H
  have c3b0:(a0_0.toList == a1_0.toList)=true:=beq_iff_eq.mpr c3
  have c3b1:(a0_0.toList != a1_0.toList)=false:=bne_eq_false_iff_eq.mpr c3
  clear c3
  replace H:=jq8.mp H
  obtain⟨t103,A40,H⟩:=H
  try dsimp only at H
  have A4:=X.mk A40
  clear A40
  by_cases c5:t103=true
  ·subst c5
   have H1:((qzk.f k l0_2 l1_2).bind fun t104=>(if t104=true then((qzk.f k l0_3 l1_3).bind fun t105=>(if t105=true then((qzz.f k l0_4 l1_4).bind fun t106=>(if t106=true then(some true) else(some false))) else(some false))) else(some false)))=some r:=by rw[if_pos rfl] at H;exact H
   clear H
   have H:=H1
   clear H1
   replace H:=jq8.mp H
   obtain⟨t104,A60,H⟩:=H
   try dsimp only at H
   have A6:=X.mk A60
   clear A60
   by_cases c7:t104=true
   ·subst c7
    have H1:((qzk.f k l0_3 l1_3).bind fun t105=>(if t105=true then((qzz.f k l0_4 l1_4).bind fun t106=>(if t106=true then(some true) else(some false))) else(some false)))=some r:=by rw[if_pos rfl] at H;exact H
    clear H
    have H:=H1
    clear H1
    replace H:=jq8.mp H
    obtain⟨t105,A80,H⟩:=H
    try dsimp only at H
    have A8:=X.mk A80
    clear A80
    by_cases c9:t105=true
    ·subst c9
     have H1:((qzz.f k l0_4 l1_4).bind fun t106=>(if t106=true then(some true) else(some false)))=some r:=by rw[if_pos rfl] at H;exact H
     clear H
     have H:=H1
     clear H1
     replace H:=jq8.mp H
     obtain⟨t106,A100,H⟩:=H
     try dsimp only at H
     have A10:=X.mk A100
     clear A100
     by_cases c11:t106=true
     ·subst c11
      have H1:(some true)=some r:=by rw[if_pos rfl] at H;exact H
      clear H
      have H:=H1
      clear H1
      obtain rfl:=Option.some.inj H
      go_enter Try.func80,Try.ntmps80
      go_wp2_with (first|((with_reducible refine gate_dst (N:=2) rfl ?_);refine box_event ?hg (N:=2) ?hd (cs:=#[.string a0_0,.slice A0_1 l0_1.length c0_1,.slice A0_2 l0_2.length c0_2,.slice A0_3 l0_3.length c0_3,.slice A0_4 l0_4.length c0_4]) (t:=77) ?hr ?_;(case hd=>rfl);(case hg=>rfl);(case hr=>first|(go_simp;done)|(go_simp;rfl));intro gb101 hg w12 hbox hb;have BK101:=X.mk (hbox);have GW101:=X.mk ((by rw[hg];exact(qx (by solve_by_elim only[HB.out,O,U,L])):w.heap.size≤gb101));have GE101:=X.mk ((by rw[hg];exact(qx (by solve_by_elim only[HB.out,O,U,L])):w.heap.size≤gb101));replace HB:=X.mk (qw (by solve_by_elim only[HB.out,O,U,L]) hb);clear hb hbox hg)|((with_reducible refine gate_dst (N:=3) rfl ?_);refine box_event ?hg (N:=3) ?hd (cs:=#[.string a1_0,.slice A1_1 l1_1.length c1_1,.slice A1_2 l1_2.length c1_2,.slice A1_3 l1_3.length c1_3,.slice A1_4 l1_4.length c1_4]) (t:=77) ?hr ?_;(case hd=>rfl);(case hg=>rfl);(case hr=>first|(go_simp;done)|(go_simp;rfl));intro gb102 hg w13 hbox hb;have BK102:=X.mk (hbox);have GW102:=X.mk ((by rw[hg];exact(qx (by solve_by_elim (maxDepth:=20) only[HB.out,O,U,L,qq,GE101.out])):w.heap.size≤gb102));have GE102:=X.mk ((by rw[hg];exact(qx (by solve_by_elim (maxDepth:=20) only[HB.out,O,U,L,qq,GE101.out])):w.heap.size≤gb102));replace HB:=X.mk (qw (by solve_by_elim (maxDepth:=20) only[HB.out,O,U,L,qq,GE101.out]) hb);have NB101_102:=X.mk ((by rw[hg];exact Nat.ne_of_lt (blk_lt (g:=gb101) (o:=.cells #[.string a0_0,.slice A0_1 l0_1.length c0_1,.slice A0_2 l0_2.length c0_2,.slice A0_3 l0_3.length c0_3,.slice A0_4 l0_4.length c0_4] 77 (0,0)) (by solve_by_elim only[BK101.out,qj,qk,qz])):gb101≠gb102));have NB102_101:=X.mk ((by rw[hg];exact Nat.ne_of_gt (blk_lt (g:=gb101) (o:=.cells #[.string a0_0,.slice A0_1 l0_1.length c0_1,.slice A0_2 l0_2.length c0_2,.slice A0_3 l0_3.length c0_3,.slice A0_4 l0_4.length c0_4] 77 (0,0)) (by solve_by_elim only[BK101.out,qj,qk,qz])):gb102≠gb101));replace BK101:=X.mk (kj (g:=gb101) (o:=.cells #[.string a0_0,.slice A0_1 l0_1.length c0_1,.slice A0_2 l0_2.length c0_2,.slice A0_3 l0_3.length c0_3,.slice A0_4 l0_4.length c0_4] 77 (0,0)) (by solve_by_elim only[BK101.out,qj,qk,qz]) hb);clear hb hbox hg;have hnb14:=NB101_102.out;have hnc14:=NB102_101.out;have hcz15_0:w13.cell? ⟨gb101,0,none⟩ = some (.string a0_0):=(I BK101.out 0).trans rfl;have hcz15_1:w13.cell? ⟨gb101,1,none⟩ = some (.slice A0_1 l0_1.length c0_1):=(I BK101.out 1).trans rfl;have hcz15_2:w13.cell? ⟨gb101,2,none⟩ = some (.slice A0_2 l0_2.length c0_2):=(I BK101.out 2).trans rfl;have hcz15_3:w13.cell? ⟨gb101,3,none⟩ = some (.slice A0_3 l0_3.length c0_3):=(I BK101.out 3).trans rfl;have hcz15_4:w13.cell? ⟨gb101,4,none⟩ = some (.slice A0_4 l0_4.length c0_4):=(I BK101.out 4).trans rfl;have hfz15_0:=J BK101.out 0;have hfz15_1:=J BK101.out 1;have hfz15_2:=J BK101.out 2;have hfz15_3:=J BK101.out 3;have hfz15_4:=J BK101.out 4;have hcz16_0:w13.cell? ⟨gb102,0,none⟩ = some (.string a1_0):=(I BK102.out 0).trans rfl;have hcz16_1:w13.cell? ⟨gb102,1,none⟩ = some (.slice A1_1 l1_1.length c1_1):=(I BK102.out 1).trans rfl;have hcz16_2:w13.cell? ⟨gb102,2,none⟩ = some (.slice A1_2 l1_2.length c1_2):=(I BK102.out 2).trans rfl;have hcz16_3:w13.cell? ⟨gb102,3,none⟩ = some (.slice A1_3 l1_3.length c1_3):=(I BK102.out 3).trans rfl;have hcz16_4:w13.cell? ⟨gb102,4,none⟩ = some (.slice A1_4 l1_4.length c1_4):=(I BK102.out 4).trans rfl;have hfz16_0:=J BK102.out 0;have hfz16_1:=J BK102.out 1;have hfz16_2:=J BK102.out 2;have hfz16_3:=J BK102.out 3;have hfz16_4:=J BK102.out 4)|((with_reducible refine zw (f:=36) rfl ?_);refine goesL_ (some 14) rfl rfl Try.func36 (by kernel_rfl) rfl #[.slice A0_1 l0_1.length c0_1,.slice A1_1 l1_1.length c1_1] rfl (by(try simp only[jq0,jq1,jq2]);first|done|rfl|(simp only[jq3,jq4];rfl)) ?_;(with_reducible refine(qqw.calls k _ _ l0_1 _ _ l1_1 true _ ?side1 ?side2 ?side3 ?side4 A4.out).mono ?_);(case side1=>solve_by_elim only[(Kd.C_below HR0_1.out HB.out),Kd.C_alloc,Kd.C_drewN,Kd.C_drew]);(case side2=>exact HC0_1.out);(case side3=>solve_by_elim only[(Kd.C_below HR1_1.out HB.out),Kd.C_alloc,Kd.C_drewN,Kd.C_drew]);(case side4=>exact HC1_1.out);rintro e w' ⟨rfl,⟨nd,rfl⟩⟩;refine⟨_,rfl,?_⟩)|((with_reducible refine zw (f:=98) rfl ?_);refine goesL_ (some 20) rfl rfl Try.func98 (by kernel_rfl) rfl #[.slice A0_2 l0_2.length c0_2,.slice A1_2 l1_2.length c1_2] rfl (by(try simp only[jq0,jq1,jq2]);first|done|rfl|(simp only[jq3,jq4];rfl)) ?_;(with_reducible refine(qzk.calls k _ _ l0_2 _ _ l1_2 true _ ?side1 ?side2 ?side3 ?side4 A6.out).mono ?_);(case side1=>repeat(first|exact(Kd.C_below HR0_2.out (by solve_by_elim (maxDepth:=20) only[HB.out,O,U,L,qq,GE101.out,qq,GE102.out]))|(with_reducible refine Kd.C_alloc ?_ _)|(with_reducible refine Kd.C_drewN ?_ _)|(with_reducible refine Kd.C_drew ?_)));(case side2=>exact HC0_2.out);(case side3=>repeat(first|exact(Kd.C_below HR1_2.out (by solve_by_elim (maxDepth:=20) only[HB.out,O,U,L,qq,GE101.out,qq,GE102.out]))|(with_reducible refine Kd.C_alloc ?_ _)|(with_reducible refine Kd.C_drewN ?_ _)|(with_reducible refine Kd.C_drew ?_)));(case side4=>exact HC1_2.out);rintro e w' ⟨rfl,⟨nd,rfl⟩⟩;refine⟨_,rfl,?_⟩)|((with_reducible refine zw (f:=98) rfl ?_);refine goesL_ (some 26) rfl rfl Try.func98 (by kernel_rfl) rfl #[.slice A0_3 l0_3.length c0_3,.slice A1_3 l1_3.length c1_3] rfl (by(try simp only[jq0,jq1,jq2]);first|done|rfl|(simp only[jq3,jq4];rfl)) ?_;(with_reducible refine(qzk.calls k _ _ l0_3 _ _ l1_3 true _ ?side1 ?side2 ?side3 ?side4 A8.out).mono ?_);(case side1=>repeat(first|exact(Kd.C_below HR0_3.out (by solve_by_elim (maxDepth:=20) only[HB.out,O,U,L,qq,GE101.out,qq,GE102.out]))|(with_reducible refine Kd.C_alloc ?_ _)|(with_reducible refine Kd.C_drewN ?_ _)|(with_reducible refine Kd.C_drew ?_)));(case side2=>exact HC0_3.out);(case side3=>repeat(first|exact(Kd.C_below HR1_3.out (by solve_by_elim (maxDepth:=20) only[HB.out,O,U,L,qq,GE101.out,qq,GE102.out]))|(with_reducible refine Kd.C_alloc ?_ _)|(with_reducible refine Kd.C_drewN ?_ _)|(with_reducible refine Kd.C_drew ?_)));(case side4=>exact HC1_3.out);rintro e w' ⟨rfl,⟨nd,rfl⟩⟩;refine⟨_,rfl,?_⟩)|((with_reducible refine zw (f:=99) rfl ?_);refine goesL_ (some 32) rfl rfl Try.func99 (by kernel_rfl) rfl #[.slice A0_4 l0_4.length c0_4,.slice A1_4 l1_4.length c1_4] rfl (by(try simp only[jq0,jq1,jq2]);first|done|rfl|(simp only[jq3,jq4];rfl)) ?_;(with_reducible refine(qzz.calls k _ _ l0_4 _ _ l1_4 true _ ?side1 ?side2 ?side3 ?side4 A10.out).mono ?_);(case side1=>repeat(first|exact(Kd.C_below HR0_4.out (by solve_by_elim (maxDepth:=20) only[HB.out,O,U,L,qq,GE101.out,qq,GE102.out]))|(with_reducible refine Kd.C_alloc ?_ _)|(with_reducible refine Kd.C_drewN ?_ _)|(with_reducible refine Kd.C_drew ?_)));(case side2=>exact HC0_4.out);(case side3=>repeat(first|exact(Kd.C_below HR1_4.out (by solve_by_elim (maxDepth:=20) only[HB.out,O,U,L,qq,GE101.out,qq,GE102.out]))|(with_reducible refine Kd.C_alloc ?_ _)|(with_reducible refine Kd.C_drewN ?_ _)|(with_reducible refine Kd.C_drew ?_)));(case side4=>exact HC1_4.out);rintro e w' ⟨rfl,⟨nd,rfl⟩⟩;refine⟨_,rfl,?_⟩))
      go_ret
      exact⟨by first|rfl|(simp[*,zv,zk] <;> rfl),by repeat(first|(with_reducible first|exact HB.out|apply O|apply U|apply L|refine qq ?_ GE101.out|refine qq ?_ GE102.out)|exact HB.out)⟩
     ·replace c11:=jq9.mpr c11
      subst c11
      have H1:(some false)=some r:=by rw[if_neg (show ¬ (false=true) by decide)] at H;exact H
      clear H
      have H:=H1
      clear H1
      obtain rfl:=Option.some.inj H
      go_enter Try.func80,Try.ntmps80
      go_wp2_with (first|((with_reducible refine gate_dst (N:=2) rfl ?_);refine box_event ?hg (N:=2) ?hd (cs:=#[.string a0_0,.slice A0_1 l0_1.length c0_1,.slice A0_2 l0_2.length c0_2,.slice A0_3 l0_3.length c0_3,.slice A0_4 l0_4.length c0_4]) (t:=77) ?hr ?_;(case hd=>rfl);(case hg=>rfl);(case hr=>first|(go_simp;done)|(go_simp;rfl));intro gb101 hg w17 hbox hb;have BK101:=X.mk (hbox);have GW101:=X.mk ((by rw[hg];exact(qx (by solve_by_elim only[HB.out,O,U,L])):w.heap.size≤gb101));have GE101:=X.mk ((by rw[hg];exact(qx (by solve_by_elim only[HB.out,O,U,L])):w.heap.size≤gb101));replace HB:=X.mk (qw (by solve_by_elim only[HB.out,O,U,L]) hb);clear hb hbox hg)|((with_reducible refine gate_dst (N:=3) rfl ?_);refine box_event ?hg (N:=3) ?hd (cs:=#[.string a1_0,.slice A1_1 l1_1.length c1_1,.slice A1_2 l1_2.length c1_2,.slice A1_3 l1_3.length c1_3,.slice A1_4 l1_4.length c1_4]) (t:=77) ?hr ?_;(case hd=>rfl);(case hg=>rfl);(case hr=>first|(go_simp;done)|(go_simp;rfl));intro gb102 hg w18 hbox hb;have BK102:=X.mk (hbox);have GW102:=X.mk ((by rw[hg];exact(qx (by solve_by_elim (maxDepth:=20) only[HB.out,O,U,L,qq,GE101.out])):w.heap.size≤gb102));have GE102:=X.mk ((by rw[hg];exact(qx (by solve_by_elim (maxDepth:=20) only[HB.out,O,U,L,qq,GE101.out])):w.heap.size≤gb102));replace HB:=X.mk (qw (by solve_by_elim (maxDepth:=20) only[HB.out,O,U,L,qq,GE101.out]) hb);have NB101_102:=X.mk ((by rw[hg];exact Nat.ne_of_lt (blk_lt (g:=gb101) (o:=.cells #[.string a0_0,.slice A0_1 l0_1.length c0_1,.slice A0_2 l0_2.length c0_2,.slice A0_3 l0_3.length c0_3,.slice A0_4 l0_4.length c0_4] 77 (0,0)) (by solve_by_elim only[BK101.out,qj,qk,qz])):gb101≠gb102));have NB102_101:=X.mk ((by rw[hg];exact Nat.ne_of_gt (blk_lt (g:=gb101) (o:=.cells #[.string a0_0,.slice A0_1 l0_1.length c0_1,.slice A0_2 l0_2.length c0_2,.slice A0_3 l0_3.length c0_3,.slice A0_4 l0_4.length c0_4] 77 (0,0)) (by solve_by_elim only[BK101.out,qj,qk,qz])):gb102≠gb101));replace BK101:=X.mk (kj (g:=gb101) (o:=.cells #[.string a0_0,.slice A0_1 l0_1.length c0_1,.slice A0_2 l0_2.length c0_2,.slice A0_3 l0_3.length c0_3,.slice A0_4 l0_4.length c0_4] 77 (0,0)) (by solve_by_elim only[BK101.out,qj,qk,qz]) hb);clear hb hbox hg;have hnb19:=NB101_102.out;have hnc19:=NB102_101.out;have hcz20_0:w18.cell? ⟨gb101,0,none⟩ = some (.string a0_0):=(I BK101.out 0).trans rfl;have hcz20_1:w18.cell? ⟨gb101,1,none⟩ = some (.slice A0_1 l0_1.length c0_1):=(I BK101.out 1).trans rfl;have hcz20_2:w18.cell? ⟨gb101,2,none⟩ = some (.slice A0_2 l0_2.length c0_2):=(I BK101.out 2).trans rfl;have hcz20_3:w18.cell? ⟨gb101,3,none⟩ = some (.slice A0_3 l0_3.length c0_3):=(I BK101.out 3).trans rfl;have hcz20_4:w18.cell? ⟨gb101,4,none⟩ = some (.slice A0_4 l0_4.length c0_4):=(I BK101.out 4).trans rfl;have hfz20_0:=J BK101.out 0;have hfz20_1:=J BK101.out 1;have hfz20_2:=J BK101.out 2;have hfz20_3:=J BK101.out 3;have hfz20_4:=J BK101.out 4;have hcz21_0:w18.cell? ⟨gb102,0,none⟩ = some (.string a1_0):=(I BK102.out 0).trans rfl;have hcz21_1:w18.cell? ⟨gb102,1,none⟩ = some (.slice A1_1 l1_1.length c1_1):=(I BK102.out 1).trans rfl;have hcz21_2:w18.cell? ⟨gb102,2,none⟩ = some (.slice A1_2 l1_2.length c1_2):=(I BK102.out 2).trans rfl;have hcz21_3:w18.cell? ⟨gb102,3,none⟩ = some (.slice A1_3 l1_3.length c1_3):=(I BK102.out 3).trans rfl;have hcz21_4:w18.cell? ⟨gb102,4,none⟩ = some (.slice A1_4 l1_4.length c1_4):=(I BK102.out 4).trans rfl;have hfz21_0:=J BK102.out 0;have hfz21_1:=J BK102.out 1;have hfz21_2:=J BK102.out 2;have hfz21_3:=J BK102.out 3;have hfz21_4:=J BK102.out 4)|((with_reducible refine zw (f:=36) rfl ?_);refine goesL_ (some 14) rfl rfl Try.func36 (by kernel_rfl) rfl #[.slice A0_1 l0_1.length c0_1,.slice A1_1 l1_1.length c1_1] rfl (by(try simp only[jq0,jq1,jq2]);first|done|rfl|(simp only[jq3,jq4];rfl)) ?_;(with_reducible refine(qqw.calls k _ _ l0_1 _ _ l1_1 true _ ?side1 ?side2 ?side3 ?side4 A4.out).mono ?_);(case side1=>solve_by_elim only[(Kd.C_below HR0_1.out HB.out),Kd.C_alloc,Kd.C_drewN,Kd.C_drew]);(case side2=>exact HC0_1.out);(case side3=>solve_by_elim only[(Kd.C_below HR1_1.out HB.out),Kd.C_alloc,Kd.C_drewN,Kd.C_drew]);(case side4=>exact HC1_1.out);rintro e w' ⟨rfl,⟨nd,rfl⟩⟩;refine⟨_,rfl,?_⟩)|((with_reducible refine zw (f:=98) rfl ?_);refine goesL_ (some 20) rfl rfl Try.func98 (by kernel_rfl) rfl #[.slice A0_2 l0_2.length c0_2,.slice A1_2 l1_2.length c1_2] rfl (by(try simp only[jq0,jq1,jq2]);first|done|rfl|(simp only[jq3,jq4];rfl)) ?_;(with_reducible refine(qzk.calls k _ _ l0_2 _ _ l1_2 true _ ?side1 ?side2 ?side3 ?side4 A6.out).mono ?_);(case side1=>repeat(first|exact(Kd.C_below HR0_2.out (by solve_by_elim (maxDepth:=20) only[HB.out,O,U,L,qq,GE101.out,qq,GE102.out]))|(with_reducible refine Kd.C_alloc ?_ _)|(with_reducible refine Kd.C_drewN ?_ _)|(with_reducible refine Kd.C_drew ?_)));(case side2=>exact HC0_2.out);(case side3=>repeat(first|exact(Kd.C_below HR1_2.out (by solve_by_elim (maxDepth:=20) only[HB.out,O,U,L,qq,GE101.out,qq,GE102.out]))|(with_reducible refine Kd.C_alloc ?_ _)|(with_reducible refine Kd.C_drewN ?_ _)|(with_reducible refine Kd.C_drew ?_)));(case side4=>exact HC1_2.out);rintro e w' ⟨rfl,⟨nd,rfl⟩⟩;refine⟨_,rfl,?_⟩)|((with_reducible refine zw (f:=98) rfl ?_);refine goesL_ (some 26) rfl rfl Try.func98 (by kernel_rfl) rfl #[.slice A0_3 l0_3.length c0_3,.slice A1_3 l1_3.length c1_3] rfl (by(try simp only[jq0,jq1,jq2]);first|done|rfl|(simp only[jq3,jq4];rfl)) ?_;(with_reducible refine(qzk.calls k _ _ l0_3 _ _ l1_3 true _ ?side1 ?side2 ?side3 ?side4 A8.out).mono ?_);(case side1=>repeat(first|exact(Kd.C_below HR0_3.out (by solve_by_elim (maxDepth:=20) only[HB.out,O,U,L,qq,GE101.out,qq,GE102.out]))|(with_reducible refine Kd.C_alloc ?_ _)|(with_reducible refine Kd.C_drewN ?_ _)|(with_reducible refine Kd.C_drew ?_)));(case side2=>exact HC0_3.out);(case side3=>repeat(first|exact(Kd.C_below HR1_3.out (by solve_by_elim (maxDepth:=20) only[HB.out,O,U,L,qq,GE101.out,qq,GE102.out]))|(with_reducible refine Kd.C_alloc ?_ _)|(with_reducible refine Kd.C_drewN ?_ _)|(with_reducible refine Kd.C_drew ?_)));(case side4=>exact HC1_3.out);rintro e w' ⟨rfl,⟨nd,rfl⟩⟩;refine⟨_,rfl,?_⟩)|((with_reducible refine zw (f:=99) rfl ?_);refine goesL_ (some 32) rfl rfl Try.func99 (by kernel_rfl) rfl #[.slice A0_4 l0_4.length c0_4,.slice A1_4 l1_4.length c1_4] rfl (by(try simp only[jq0,jq1,jq2]);first|done|rfl|(simp only[jq3,jq4];rfl)) ?_;(with_reducible refine(qzz.calls k _ _ l0_4 _ _ l1_4 false _ ?side1 ?side2 ?side3 ?side4 A10.out).mono ?_);(case side1=>repeat(first|exact(Kd.C_below HR0_4.out (by solve_by_elim (maxDepth:=20) only[HB.out,O,U,L,qq,GE101.out,qq,GE102.out]))|(with_reducible refine Kd.C_alloc ?_ _)|(with_reducible refine Kd.C_drewN ?_ _)|(with_reducible refine Kd.C_drew ?_)));(case side2=>exact HC0_4.out);(case side3=>repeat(first|exact(Kd.C_below HR1_4.out (by solve_by_elim (maxDepth:=20) only[HB.out,O,U,L,qq,GE101.out,qq,GE102.out]))|(with_reducible refine Kd.C_alloc ?_ _)|(with_reducible refine Kd.C_drewN ?_ _)|(with_reducible refine Kd.C_drew ?_)));(case side4=>exact HC1_4.out);rintro e w' ⟨rfl,⟨nd,rfl⟩⟩;refine⟨_,rfl,?_⟩))
      go_ret
      exact⟨by first|rfl|(simp[*,zv,zk] <;> rfl),by repeat(first|(with_reducible first|exact HB.out|apply O|apply U|apply L|refine qq ?_ GE101.out|refine qq ?_ GE102.out)|exact HB.out)⟩
    ·replace c9:=jq9.mpr c9
     subst c9
     have H1:(some false)=some r:=by rw[if_neg (show ¬ (false=true) by decide)] at H;exact H
     clear H
     have H:=H1
     clear H1
     obtain rfl:=Option.some.inj H
     go_enter Try.func80,Try.ntmps80
     go_wp2_with (first|((with_reducible refine gate_dst (N:=2) rfl ?_);refine box_event ?hg (N:=2) ?hd (cs:=#[.string a0_0,.slice A0_1 l0_1.length c0_1,.slice A0_2 l0_2.length c0_2,.slice A0_3 l0_3.length c0_3,.slice A0_4 l0_4.length c0_4]) (t:=77) ?hr ?_;(case hd=>rfl);(case hg=>rfl);(case hr=>first|(go_simp;done)|(go_simp;rfl));intro gb101 hg w22 hbox hb;have BK101:=X.mk (hbox);have GW101:=X.mk ((by rw[hg];exact(qx (by solve_by_elim only[HB.out,O,U,L])):w.heap.size≤gb101));have GE101:=X.mk ((by rw[hg];exact(qx (by solve_by_elim only[HB.out,O,U,L])):w.heap.size≤gb101));replace HB:=X.mk (qw (by solve_by_elim only[HB.out,O,U,L]) hb);clear hb hbox hg)|((with_reducible refine gate_dst (N:=3) rfl ?_);refine box_event ?hg (N:=3) ?hd (cs:=#[.string a1_0,.slice A1_1 l1_1.length c1_1,.slice A1_2 l1_2.length c1_2,.slice A1_3 l1_3.length c1_3,.slice A1_4 l1_4.length c1_4]) (t:=77) ?hr ?_;(case hd=>rfl);(case hg=>rfl);(case hr=>first|(go_simp;done)|(go_simp;rfl));intro gb102 hg w23 hbox hb;have BK102:=X.mk (hbox);have GW102:=X.mk ((by rw[hg];exact(qx (by solve_by_elim (maxDepth:=20) only[HB.out,O,U,L,qq,GE101.out])):w.heap.size≤gb102));have GE102:=X.mk ((by rw[hg];exact(qx (by solve_by_elim (maxDepth:=20) only[HB.out,O,U,L,qq,GE101.out])):w.heap.size≤gb102));replace HB:=X.mk (qw (by solve_by_elim (maxDepth:=20) only[HB.out,O,U,L,qq,GE101.out]) hb);have NB101_102:=X.mk ((by rw[hg];exact Nat.ne_of_lt (blk_lt (g:=gb101) (o:=.cells #[.string a0_0,.slice A0_1 l0_1.length c0_1,.slice A0_2 l0_2.length c0_2,.slice A0_3 l0_3.length c0_3,.slice A0_4 l0_4.length c0_4] 77 (0,0)) (by solve_by_elim only[BK101.out,qj,qk,qz])):gb101≠gb102));have NB102_101:=X.mk ((by rw[hg];exact Nat.ne_of_gt (blk_lt (g:=gb101) (o:=.cells #[.string a0_0,.slice A0_1 l0_1.length c0_1,.slice A0_2 l0_2.length c0_2,.slice A0_3 l0_3.length c0_3,.slice A0_4 l0_4.length c0_4] 77 (0,0)) (by solve_by_elim only[BK101.out,qj,qk,qz])):gb102≠gb101));replace BK101:=X.mk (kj (g:=gb101) (o:=.cells #[.string a0_0,.slice A0_1 l0_1.length c0_1,.slice A0_2 l0_2.length c0_2,.slice A0_3 l0_3.length c0_3,.slice A0_4 l0_4.length c0_4] 77 (0,0)) (by solve_by_elim only[BK101.out,qj,qk,qz]) hb);clear hb hbox hg;have hnb24:=NB101_102.out;have hnc24:=NB102_101.out;have hcz25_0:w23.cell? ⟨gb101,0,none⟩ = some (.string a0_0):=(I BK101.out 0).trans rfl;have hcz25_1:w23.cell? ⟨gb101,1,none⟩ = some (.slice A0_1 l0_1.length c0_1):=(I BK101.out 1).trans rfl;have hcz25_2:w23.cell? ⟨gb101,2,none⟩ = some (.slice A0_2 l0_2.length c0_2):=(I BK101.out 2).trans rfl;have hcz25_3:w23.cell? ⟨gb101,3,none⟩ = some (.slice A0_3 l0_3.length c0_3):=(I BK101.out 3).trans rfl;have hcz25_4:w23.cell? ⟨gb101,4,none⟩ = some (.slice A0_4 l0_4.length c0_4):=(I BK101.out 4).trans rfl;have hfz25_0:=J BK101.out 0;have hfz25_1:=J BK101.out 1;have hfz25_2:=J BK101.out 2;have hfz25_3:=J BK101.out 3;have hfz25_4:=J BK101.out 4;have hcz26_0:w23.cell? ⟨gb102,0,none⟩ = some (.string a1_0):=(I BK102.out 0).trans rfl;have hcz26_1:w23.cell? ⟨gb102,1,none⟩ = some (.slice A1_1 l1_1.length c1_1):=(I BK102.out 1).trans rfl;have hcz26_2:w23.cell? ⟨gb102,2,none⟩ = some (.slice A1_2 l1_2.length c1_2):=(I BK102.out 2).trans rfl;have hcz26_3:w23.cell? ⟨gb102,3,none⟩ = some (.slice A1_3 l1_3.length c1_3):=(I BK102.out 3).trans rfl;have hcz26_4:w23.cell? ⟨gb102,4,none⟩ = some (.slice A1_4 l1_4.length c1_4):=(I BK102.out 4).trans rfl;have hfz26_0:=J BK102.out 0;have hfz26_1:=J BK102.out 1;have hfz26_2:=J BK102.out 2;have hfz26_3:=J BK102.out 3;have hfz26_4:=J BK102.out 4)|((with_reducible refine zw (f:=36) rfl ?_);refine goesL_ (some 14) rfl rfl Try.func36 (by kernel_rfl) rfl #[.slice A0_1 l0_1.length c0_1,.slice A1_1 l1_1.length c1_1] rfl (by(try simp only[jq0,jq1,jq2]);first|done|rfl|(simp only[jq3,jq4];rfl)) ?_;(with_reducible refine(qqw.calls k _ _ l0_1 _ _ l1_1 true _ ?side1 ?side2 ?side3 ?side4 A4.out).mono ?_);(case side1=>solve_by_elim only[(Kd.C_below HR0_1.out HB.out),Kd.C_alloc,Kd.C_drewN,Kd.C_drew]);(case side2=>exact HC0_1.out);(case side3=>solve_by_elim only[(Kd.C_below HR1_1.out HB.out),Kd.C_alloc,Kd.C_drewN,Kd.C_drew]);(case side4=>exact HC1_1.out);rintro e w' ⟨rfl,⟨nd,rfl⟩⟩;refine⟨_,rfl,?_⟩)|((with_reducible refine zw (f:=98) rfl ?_);refine goesL_ (some 20) rfl rfl Try.func98 (by kernel_rfl) rfl #[.slice A0_2 l0_2.length c0_2,.slice A1_2 l1_2.length c1_2] rfl (by(try simp only[jq0,jq1,jq2]);first|done|rfl|(simp only[jq3,jq4];rfl)) ?_;(with_reducible refine(qzk.calls k _ _ l0_2 _ _ l1_2 true _ ?side1 ?side2 ?side3 ?side4 A6.out).mono ?_);(case side1=>repeat(first|exact(Kd.C_below HR0_2.out (by solve_by_elim (maxDepth:=20) only[HB.out,O,U,L,qq,GE101.out,qq,GE102.out]))|(with_reducible refine Kd.C_alloc ?_ _)|(with_reducible refine Kd.C_drewN ?_ _)|(with_reducible refine Kd.C_drew ?_)));(case side2=>exact HC0_2.out);(case side3=>repeat(first|exact(Kd.C_below HR1_2.out (by solve_by_elim (maxDepth:=20) only[HB.out,O,U,L,qq,GE101.out,qq,GE102.out]))|(with_reducible refine Kd.C_alloc ?_ _)|(with_reducible refine Kd.C_drewN ?_ _)|(with_reducible refine Kd.C_drew ?_)));(case side4=>exact HC1_2.out);rintro e w' ⟨rfl,⟨nd,rfl⟩⟩;refine⟨_,rfl,?_⟩)|((with_reducible refine zw (f:=98) rfl ?_);refine goesL_ (some 26) rfl rfl Try.func98 (by kernel_rfl) rfl #[.slice A0_3 l0_3.length c0_3,.slice A1_3 l1_3.length c1_3] rfl (by(try simp only[jq0,jq1,jq2]);first|done|rfl|(simp only[jq3,jq4];rfl)) ?_;(with_reducible refine(qzk.calls k _ _ l0_3 _ _ l1_3 false _ ?side1 ?side2 ?side3 ?side4 A8.out).mono ?_);(case side1=>repeat(first|exact(Kd.C_below HR0_3.out (by solve_by_elim (maxDepth:=20) only[HB.out,O,U,L,qq,GE101.out,qq,GE102.out]))|(with_reducible refine Kd.C_alloc ?_ _)|(with_reducible refine Kd.C_drewN ?_ _)|(with_reducible refine Kd.C_drew ?_)));(case side2=>exact HC0_3.out);(case side3=>repeat(first|exact(Kd.C_below HR1_3.out (by solve_by_elim (maxDepth:=20) only[HB.out,O,U,L,qq,GE101.out,qq,GE102.out]))|(with_reducible refine Kd.C_alloc ?_ _)|(with_reducible refine Kd.C_drewN ?_ _)|(with_reducible refine Kd.C_drew ?_)));(case side4=>exact HC1_3.out);rintro e w' ⟨rfl,⟨nd,rfl⟩⟩;refine⟨_,rfl,?_⟩))
     go_ret
     exact⟨by first|rfl|(simp[*,zv,zk] <;> rfl),by repeat(first|(with_reducible first|exact HB.out|apply O|apply U|apply L|refine qq ?_ GE101.out|refine qq ?_ GE102.out)|exact HB.out)⟩
   ·replace c7:=jq9.mpr c7
    subst c7
    have H1:(some false)=some r:=by rw[if_neg (show ¬ (false=true) by decide)] at H;exact H
    clear H
    have H:=H1
    clear H1
    obtain rfl:=Option.some.inj H
    go_enter Try.func80,Try.ntmps80
    go_wp2_with (first|((with_reducible refine gate_dst (N:=2) rfl ?_);refine box_event ?hg (N:=2) ?hd (cs:=#[.string a0_0,.slice A0_1 l0_1.length c0_1,.slice A0_2 l0_2.length c0_2,.slice A0_3 l0_3.length c0_3,.slice A0_4 l0_4.length c0_4]) (t:=77) ?hr ?_;(case hd=>rfl);(case hg=>rfl);(case hr=>first|(go_simp;done)|(go_simp;rfl));intro gb101 hg w27 hbox hb;have BK101:=X.mk (hbox);have GW101:=X.mk ((by rw[hg];exact(qx (by solve_by_elim only[HB.out,O,U,L])):w.heap.size≤gb101));have GE101:=X.mk ((by rw[hg];exact(qx (by solve_by_elim only[HB.out,O,U,L])):w.heap.size≤gb101));replace HB:=X.mk (qw (by solve_by_elim only[HB.out,O,U,L]) hb);clear hb hbox hg)|((with_reducible refine gate_dst (N:=3) rfl ?_);refine box_event ?hg (N:=3) ?hd (cs:=#[.string a1_0,.slice A1_1 l1_1.length c1_1,.slice A1_2 l1_2.length c1_2,.slice A1_3 l1_3.length c1_3,.slice A1_4 l1_4.length c1_4]) (t:=77) ?hr ?_;(case hd=>rfl);(case hg=>rfl);(case hr=>first|(go_simp;done)|(go_simp;rfl));intro gb102 hg w28 hbox hb;have BK102:=X.mk (hbox);have GW102:=X.mk ((by rw[hg];exact(qx (by solve_by_elim (maxDepth:=20) only[HB.out,O,U,L,qq,GE101.out])):w.heap.size≤gb102));have GE102:=X.mk ((by rw[hg];exact(qx (by solve_by_elim (maxDepth:=20) only[HB.out,O,U,L,qq,GE101.out])):w.heap.size≤gb102));replace HB:=X.mk (qw (by solve_by_elim (maxDepth:=20) only[HB.out,O,U,L,qq,GE101.out]) hb);have NB101_102:=X.mk ((by rw[hg];exact Nat.ne_of_lt (blk_lt (g:=gb101) (o:=.cells #[.string a0_0,.slice A0_1 l0_1.length c0_1,.slice A0_2 l0_2.length c0_2,.slice A0_3 l0_3.length c0_3,.slice A0_4 l0_4.length c0_4] 77 (0,0)) (by solve_by_elim only[BK101.out,qj,qk,qz])):gb101≠gb102));have NB102_101:=X.mk ((by rw[hg];exact Nat.ne_of_gt (blk_lt (g:=gb101) (o:=.cells #[.string a0_0,.slice A0_1 l0_1.length c0_1,.slice A0_2 l0_2.length c0_2,.slice A0_3 l0_3.length c0_3,.slice A0_4 l0_4.length c0_4] 77 (0,0)) (by solve_by_elim only[BK101.out,qj,qk,qz])):gb102≠gb101));replace BK101:=X.mk (kj (g:=gb101) (o:=.cells #[.string a0_0,.slice A0_1 l0_1.length c0_1,.slice A0_2 l0_2.length c0_2,.slice A0_3 l0_3.length c0_3,.slice A0_4 l0_4.length c0_4] 77 (0,0)) (by solve_by_elim only[BK101.out,qj,qk,qz]) hb);clear hb hbox hg;have hnb29:=NB101_102.out;have hnc29:=NB102_101.out;have hcz30_0:w28.cell? ⟨gb101,0,none⟩ = some (.string a0_0):=(I BK101.out 0).trans rfl;have hcz30_1:w28.cell? ⟨gb101,1,none⟩ = some (.slice A0_1 l0_1.length c0_1):=(I BK101.out 1).trans rfl;have hcz30_2:w28.cell? ⟨gb101,2,none⟩ = some (.slice A0_2 l0_2.length c0_2):=(I BK101.out 2).trans rfl;have hcz30_3:w28.cell? ⟨gb101,3,none⟩ = some (.slice A0_3 l0_3.length c0_3):=(I BK101.out 3).trans rfl;have hcz30_4:w28.cell? ⟨gb101,4,none⟩ = some (.slice A0_4 l0_4.length c0_4):=(I BK101.out 4).trans rfl;have hfz30_0:=J BK101.out 0;have hfz30_1:=J BK101.out 1;have hfz30_2:=J BK101.out 2;have hfz30_3:=J BK101.out 3;have hfz30_4:=J BK101.out 4;have hcz31_0:w28.cell? ⟨gb102,0,none⟩ = some (.string a1_0):=(I BK102.out 0).trans rfl;have hcz31_1:w28.cell? ⟨gb102,1,none⟩ = some (.slice A1_1 l1_1.length c1_1):=(I BK102.out 1).trans rfl;have hcz31_2:w28.cell? ⟨gb102,2,none⟩ = some (.slice A1_2 l1_2.length c1_2):=(I BK102.out 2).trans rfl;have hcz31_3:w28.cell? ⟨gb102,3,none⟩ = some (.slice A1_3 l1_3.length c1_3):=(I BK102.out 3).trans rfl;have hcz31_4:w28.cell? ⟨gb102,4,none⟩ = some (.slice A1_4 l1_4.length c1_4):=(I BK102.out 4).trans rfl;have hfz31_0:=J BK102.out 0;have hfz31_1:=J BK102.out 1;have hfz31_2:=J BK102.out 2;have hfz31_3:=J BK102.out 3;have hfz31_4:=J BK102.out 4)|((with_reducible refine zw (f:=36) rfl ?_);refine goesL_ (some 14) rfl rfl Try.func36 (by kernel_rfl) rfl #[.slice A0_1 l0_1.length c0_1,.slice A1_1 l1_1.length c1_1] rfl (by(try simp only[jq0,jq1,jq2]);first|done|rfl|(simp only[jq3,jq4];rfl)) ?_;(with_reducible refine(qqw.calls k _ _ l0_1 _ _ l1_1 true _ ?side1 ?side2 ?side3 ?side4 A4.out).mono ?_);(case side1=>solve_by_elim only[(Kd.C_below HR0_1.out HB.out),Kd.C_alloc,Kd.C_drewN,Kd.C_drew]);(case side2=>exact HC0_1.out);(case side3=>solve_by_elim only[(Kd.C_below HR1_1.out HB.out),Kd.C_alloc,Kd.C_drewN,Kd.C_drew]);(case side4=>exact HC1_1.out);rintro e w' ⟨rfl,⟨nd,rfl⟩⟩;refine⟨_,rfl,?_⟩)|((with_reducible refine zw (f:=98) rfl ?_);refine goesL_ (some 20) rfl rfl Try.func98 (by kernel_rfl) rfl #[.slice A0_2 l0_2.length c0_2,.slice A1_2 l1_2.length c1_2] rfl (by(try simp only[jq0,jq1,jq2]);first|done|rfl|(simp only[jq3,jq4];rfl)) ?_;(with_reducible refine(qzk.calls k _ _ l0_2 _ _ l1_2 false _ ?side1 ?side2 ?side3 ?side4 A6.out).mono ?_);(case side1=>repeat(first|exact(Kd.C_below HR0_2.out (by solve_by_elim (maxDepth:=20) only[HB.out,O,U,L,qq,GE101.out,qq,GE102.out]))|(with_reducible refine Kd.C_alloc ?_ _)|(with_reducible refine Kd.C_drewN ?_ _)|(with_reducible refine Kd.C_drew ?_)));(case side2=>exact HC0_2.out);(case side3=>repeat(first|exact(Kd.C_below HR1_2.out (by solve_by_elim (maxDepth:=20) only[HB.out,O,U,L,qq,GE101.out,qq,GE102.out]))|(with_reducible refine Kd.C_alloc ?_ _)|(with_reducible refine Kd.C_drewN ?_ _)|(with_reducible refine Kd.C_drew ?_)));(case side4=>exact HC1_2.out);rintro e w' ⟨rfl,⟨nd,rfl⟩⟩;refine⟨_,rfl,?_⟩))
    go_ret
    exact⟨by first|rfl|(simp[*,zv,zk] <;> rfl),by repeat(first|(with_reducible first|exact HB.out|apply O|apply U|apply L|refine qq ?_ GE101.out|refine qq ?_ GE102.out)|exact HB.out)⟩
  ·replace c5:=jq9.mpr c5
   subst c5
   have H1:(some false)=some r:=by rw[if_neg (show ¬ (false=true) by decide)] at H;exact H
   clear H
   have H:=H1
   clear H1
   obtain rfl:=Option.some.inj H
   go_enter Try.func80,Try.ntmps80
   go_wp2_with (first|((with_reducible refine gate_dst (N:=2) rfl ?_);refine box_event ?hg (N:=2) ?hd (cs:=#[.string a0_0,.slice A0_1 l0_1.length c0_1,.slice A0_2 l0_2.length c0_2,.slice A0_3 l0_3.length c0_3,.slice A0_4 l0_4.length c0_4]) (t:=77) ?hr ?_;(case hd=>rfl);(case hg=>rfl);(case hr=>first|(go_simp;done)|(go_simp;rfl));intro gb101 hg w32 hbox hb;have BK101:=X.mk (hbox);have GW101:=X.mk ((by rw[hg];exact(qx (by solve_by_elim only[HB.out,O,U,L])):w.heap.size≤gb101));have GE101:=X.mk ((by rw[hg];exact(qx (by solve_by_elim only[HB.out,O,U,L])):w.heap.size≤gb101));replace HB:=X.mk (qw (by solve_by_elim only[HB.out,O,U,L]) hb);clear hb hbox hg)|((with_reducible refine gate_dst (N:=3) rfl ?_);refine box_event ?hg (N:=3) ?hd (cs:=#[.string a1_0,.slice A1_1 l1_1.length c1_1,.slice A1_2 l1_2.length c1_2,.slice A1_3 l1_3.length c1_3,.slice A1_4 l1_4.length c1_4]) (t:=77) ?hr ?_;(case hd=>rfl);(case hg=>rfl);(case hr=>first|(go_simp;done)|(go_simp;rfl));intro gb102 hg w33 hbox hb;have BK102:=X.mk (hbox);have GW102:=X.mk ((by rw[hg];exact(qx (by solve_by_elim (maxDepth:=20) only[HB.out,O,U,L,qq,GE101.out])):w.heap.size≤gb102));have GE102:=X.mk ((by rw[hg];exact(qx (by solve_by_elim (maxDepth:=20) only[HB.out,O,U,L,qq,GE101.out])):w.heap.size≤gb102));replace HB:=X.mk (qw (by solve_by_elim (maxDepth:=20) only[HB.out,O,U,L,qq,GE101.out]) hb);have NB101_102:=X.mk ((by rw[hg];exact Nat.ne_of_lt (blk_lt (g:=gb101) (o:=.cells #[.string a0_0,.slice A0_1 l0_1.length c0_1,.slice A0_2 l0_2.length c0_2,.slice A0_3 l0_3.length c0_3,.slice A0_4 l0_4.length c0_4] 77 (0,0)) (by solve_by_elim only[BK101.out,qj,qk,qz])):gb101≠gb102));have NB102_101:=X.mk ((by rw[hg];exact Nat.ne_of_gt (blk_lt (g:=gb101) (o:=.cells #[.string a0_0,.slice A0_1 l0_1.length c0_1,.slice A0_2 l0_2.length c0_2,.slice A0_3 l0_3.length c0_3,.slice A0_4 l0_4.length c0_4] 77 (0,0)) (by solve_by_elim only[BK101.out,qj,qk,qz])):gb102≠gb101));replace BK101:=X.mk (kj (g:=gb101) (o:=.cells #[.string a0_0,.slice A0_1 l0_1.length c0_1,.slice A0_2 l0_2.length c0_2,.slice A0_3 l0_3.length c0_3,.slice A0_4 l0_4.length c0_4] 77 (0,0)) (by solve_by_elim only[BK101.out,qj,qk,qz]) hb);clear hb hbox hg;have hnb34:=NB101_102.out;have hnc34:=NB102_101.out;have hcz35_0:w33.cell? ⟨gb101,0,none⟩ = some (.string a0_0):=(I BK101.out 0).trans rfl;have hcz35_1:w33.cell? ⟨gb101,1,none⟩ = some (.slice A0_1 l0_1.length c0_1):=(I BK101.out 1).trans rfl;have hcz35_2:w33.cell? ⟨gb101,2,none⟩ = some (.slice A0_2 l0_2.length c0_2):=(I BK101.out 2).trans rfl;have hcz35_3:w33.cell? ⟨gb101,3,none⟩ = some (.slice A0_3 l0_3.length c0_3):=(I BK101.out 3).trans rfl;have hcz35_4:w33.cell? ⟨gb101,4,none⟩ = some (.slice A0_4 l0_4.length c0_4):=(I BK101.out 4).trans rfl;have hfz35_0:=J BK101.out 0;have hfz35_1:=J BK101.out 1;have hfz35_2:=J BK101.out 2;have hfz35_3:=J BK101.out 3;have hfz35_4:=J BK101.out 4;have hcz36_0:w33.cell? ⟨gb102,0,none⟩ = some (.string a1_0):=(I BK102.out 0).trans rfl;have hcz36_1:w33.cell? ⟨gb102,1,none⟩ = some (.slice A1_1 l1_1.length c1_1):=(I BK102.out 1).trans rfl;have hcz36_2:w33.cell? ⟨gb102,2,none⟩ = some (.slice A1_2 l1_2.length c1_2):=(I BK102.out 2).trans rfl;have hcz36_3:w33.cell? ⟨gb102,3,none⟩ = some (.slice A1_3 l1_3.length c1_3):=(I BK102.out 3).trans rfl;have hcz36_4:w33.cell? ⟨gb102,4,none⟩ = some (.slice A1_4 l1_4.length c1_4):=(I BK102.out 4).trans rfl;have hfz36_0:=J BK102.out 0;have hfz36_1:=J BK102.out 1;have hfz36_2:=J BK102.out 2;have hfz36_3:=J BK102.out 3;have hfz36_4:=J BK102.out 4)|((with_reducible refine zw (f:=36) rfl ?_);refine goesL_ (some 14) rfl rfl Try.func36 (by kernel_rfl) rfl #[.slice A0_1 l0_1.length c0_1,.slice A1_1 l1_1.length c1_1] rfl (by(try simp only[jq0,jq1,jq2]);first|done|rfl|(simp only[jq3,jq4];rfl)) ?_;(with_reducible refine(qqw.calls k _ _ l0_1 _ _ l1_1 false _ ?side1 ?side2 ?side3 ?side4 A4.out).mono ?_);(case side1=>solve_by_elim only[(Kd.C_below HR0_1.out HB.out),Kd.C_alloc,Kd.C_drewN,Kd.C_drew]);(case side2=>exact HC0_1.out);(case side3=>solve_by_elim only[(Kd.C_below HR1_1.out HB.out),Kd.C_alloc,Kd.C_drewN,Kd.C_drew]);(case side4=>exact HC1_1.out);rintro e w' ⟨rfl,⟨nd,rfl⟩⟩;refine⟨_,rfl,?_⟩))
   go_ret
   exact⟨by first|rfl|(simp[*,zv,zk] <;> rfl),by repeat(first|(with_reducible first|exact HB.out|apply O|apply U|apply L|refine qq ?_ GE101.out|refine qq ?_ GE102.out)|exact HB.out)⟩
 ·rw[if_neg c3] at H
  have c3b0:(a0_0.toList == a1_0.toList)=false:=beq_eq_false_iff_ne.mpr c3
  have c3b1:(a0_0.toList != a1_0.toList)=true:=bne_iff_ne.mpr c3
  obtain rfl:=Option.some.inj H
  go_enter Try.func80,Try.ntmps80
  go_wp2_with (first|((with_reducible refine gate_dst (N:=2) rfl ?_);refine box_event ?hg (N:=2) ?hd (cs:=#[.string a0_0,.slice A0_1 l0_1.length c0_1,.slice A0_2 l0_2.length c0_2,.slice A0_3 l0_3.length c0_3,.slice A0_4 l0_4.length c0_4]) (t:=77) ?hr ?_;(case hd=>rfl);(case hg=>rfl);(case hr=>first|(go_simp;done)|(go_simp;rfl));intro gb101 hg w37 hbox hb;have BK101:=X.mk (hbox);have GW101:=X.mk ((by rw[hg];exact(qx (by solve_by_elim only[HB.out,O,U,L])):w.heap.size≤gb101));have GE101:=X.mk ((by rw[hg];exact(qx (by solve_by_elim only[HB.out,O,U,L])):w.heap.size≤gb101));replace HB:=X.mk (qw (by solve_by_elim only[HB.out,O,U,L]) hb);clear hb hbox hg)|((with_reducible refine gate_dst (N:=3) rfl ?_);refine box_event ?hg (N:=3) ?hd (cs:=#[.string a1_0,.slice A1_1 l1_1.length c1_1,.slice A1_2 l1_2.length c1_2,.slice A1_3 l1_3.length c1_3,.slice A1_4 l1_4.length c1_4]) (t:=77) ?hr ?_;(case hd=>rfl);(case hg=>rfl);(case hr=>first|(go_simp;done)|(go_simp;rfl));intro gb102 hg w38 hbox hb;have BK102:=X.mk (hbox);have GW102:=X.mk ((by rw[hg];exact(qx (by solve_by_elim (maxDepth:=20) only[HB.out,O,U,L,qq,GE101.out])):w.heap.size≤gb102));have GE102:=X.mk ((by rw[hg];exact(qx (by solve_by_elim (maxDepth:=20) only[HB.out,O,U,L,qq,GE101.out])):w.heap.size≤gb102));replace HB:=X.mk (qw (by solve_by_elim (maxDepth:=20) only[HB.out,O,U,L,qq,GE101.out]) hb);have NB101_102:=X.mk ((by rw[hg];exact Nat.ne_of_lt (blk_lt (g:=gb101) (o:=.cells #[.string a0_0,.slice A0_1 l0_1.length c0_1,.slice A0_2 l0_2.length c0_2,.slice A0_3 l0_3.length c0_3,.slice A0_4 l0_4.length c0_4] 77 (0,0)) (by solve_by_elim only[BK101.out,qj,qk,qz])):gb101≠gb102));have NB102_101:=X.mk ((by rw[hg];exact Nat.ne_of_gt (blk_lt (g:=gb101) (o:=.cells #[.string a0_0,.slice A0_1 l0_1.length c0_1,.slice A0_2 l0_2.length c0_2,.slice A0_3 l0_3.length c0_3,.slice A0_4 l0_4.length c0_4] 77 (0,0)) (by solve_by_elim only[BK101.out,qj,qk,qz])):gb102≠gb101));replace BK101:=X.mk (kj (g:=gb101) (o:=.cells #[.string a0_0,.slice A0_1 l0_1.length c0_1,.slice A0_2 l0_2.length c0_2,.slice A0_3 l0_3.length c0_3,.slice A0_4 l0_4.length c0_4] 77 (0,0)) (by solve_by_elim only[BK101.out,qj,qk,qz]) hb);clear hb hbox hg;have hnb39:=NB101_102.out;have hnc39:=NB102_101.out;have hcz40_0:w38.cell? ⟨gb101,0,none⟩ = some (.string a0_0):=(I BK101.out 0).trans rfl;have hcz40_1:w38.cell? ⟨gb101,1,none⟩ = some (.slice A0_1 l0_1.length c0_1):=(I BK101.out 1).trans rfl;have hcz40_2:w38.cell? ⟨gb101,2,none⟩ = some (.slice A0_2 l0_2.length c0_2):=(I BK101.out 2).trans rfl;have hcz40_3:w38.cell? ⟨gb101,3,none⟩ = some (.slice A0_3 l0_3.length c0_3):=(I BK101.out 3).trans rfl;have hcz40_4:w38.cell? ⟨gb101,4,none⟩ = some (.slice A0_4 l0_4.length c0_4):=(I BK101.out 4).trans rfl;have hfz40_0:=J BK101.out 0;have hfz40_1:=J BK101.out 1;have hfz40_2:=J BK101.out 2;have hfz40_3:=J BK101.out 3;have hfz40_4:=J BK101.out 4;have hcz41_0:w38.cell? ⟨gb102,0,none⟩ = some (.string a1_0):=(I BK102.out 0).trans rfl;have hcz41_1:w38.cell? ⟨gb102,1,none⟩ = some (.slice A1_1 l1_1.length c1_1):=(I BK102.out 1).trans rfl;have hcz41_2:w38.cell? ⟨gb102,2,none⟩ = some (.slice A1_2 l1_2.length c1_2):=(I BK102.out 2).trans rfl;have hcz41_3:w38.cell? ⟨gb102,3,none⟩ = some (.slice A1_3 l1_3.length c1_3):=(I BK102.out 3).trans rfl;have hcz41_4:w38.cell? ⟨gb102,4,none⟩ = some (.slice A1_4 l1_4.length c1_4):=(I BK102.out 4).trans rfl;have hfz41_0:=J BK102.out 0;have hfz41_1:=J BK102.out 1;have hfz41_2:=J BK102.out 2;have hfz41_3:=J BK102.out 3;have hfz41_4:=J BK102.out 4))
  go_ret
  exact⟨by first|rfl|(simp[*,zv,zk] <;> rfl),by repeat(first|(with_reducible first|exact HB.out|apply O|apply U|apply L|refine qq ?_ GE101.out|refine qq ?_ GE102.out)|exact HB.out)⟩
def qjq.l0:Nat→List (S96)→Int→Int→Option (Int)
 | 0,_,_,_=>none
 | k + 1,x0,x1,x5=>if x5 < (x0.length:Int) then(if 0≤x5 then((qzx.f k ((kx x0 x5).f0) ((kx x0 x5).f1) ((kx x0 x5).f2) ((kx x0 x5).f3) ((kx x0 x5).f4) x1).bind fun t102=>(if t102 < 0 then(some (-1)) else(qjq.l0 k x0 t102 (wrap64 (x5 + 1))))) else(none)) else(some x1)
def qjq.f (k:Nat) (l0:List (S96)) (a1:Int):Option (Int):=if (wrap64 (a1 - (l0.length:Int))) < 0 then(some (-1)) else(qjq.l0 k l0 (wrap64 (a1 - (l0.length:Int))) 0)
theorem qjq.calls (k:Nat) (A0:Option Addr) (c0:Nat) (l0:List (S96)) (a1:Int) (r:Int) (w:World) (hr0:Kd.C k96 w A0 l0.length l0) (hc0:l0.length≤c0) (h:qjq.f k l0 a1=some r) :
  Calls Try.prog 43 #[.slice A0 l0.length c0,.int .i64 a1] w fun e w'=>e=.returned (.int .i64 r)∧Below w.heap.size w w':=by
 have hu96:=Try.underlying96
 have HR0:=X.mk hr0
 have HC0:=X.mk hc0
 clear hr0 hc0
 have HB:=X.mk (Below.refl w.heap.size w)
 unfold qjq.f at h
 have H:=h
 clear h
 by_cases c3:(wrap64 (a1 - (l0.length:Int))) < 0
 ·rw[if_pos c3] at H
  have c3b0:decide ((wrap64 (a1 - (l0.length:Int))) < 0)=true:=decide_eq_true c3
  clear c3
  obtain rfl:=Option.some.inj H
  go_enter Try.func43,Try.ntmps43
  go_wp2
  go_ret
  exact⟨by first|rfl|(simp[*,zv,zk] <;> rfl),by repeat(first|(with_reducible first|exact HB.out|apply O|apply U|apply L)|exact HB.out)⟩
 ·rw[if_neg c3] at H
  have c3b0:decide ((wrap64 (a1 - (l0.length:Int))) < 0)=false:=decide_eq_false c3
  clear c3
  have H':=X.mk H
  clear H
  go_enter Try.func43,Try.ntmps43
  go_wp2
  go_loopg [1,5] k (fun kq v1 v5 w'=>∃ (x1_1:Int) (x5_1:Int),v1=.int .i64 x1_1∧v5=.int .i64 x5_1∧X (qjq.l0 kq l0 x1_1 x5_1=some r)∧X (kq≤k)∧X (Below w.heap.size w w'))
  case atStart=>exact⟨(wrap64 (a1 - (l0.length:Int))),(0),(by first|rfl|(simp;done)|(simp[*];done)),(by first|rfl|(simp;done)|(simp[*];done)),H',⟨Nat.le_refl _⟩,⟨by repeat(first|(with_reducible first|exact HB.out|apply O|apply U|apply L)|exact HB.out)⟩⟩
  case round =>
   clear H'
   try clear p2
   try clear c3
   try clear c3b0
   obtain⟨x1_1,x5_1,rfl,rfl,HA,HK1,HB⟩:=hrel
   cases gk with
   | zero=>exact absurd HA.out (by simp[qjq.l0])
   | succ k1 =>
    have H:=HA.out
    clear HA
    simp only[qjq.l0] at H
    by_cases c4:x5_1 < (l0.length:Int)
    ·rw[if_pos c4] at H
     have c4b0:decide (x5_1 < (l0.length:Int))=true:=decide_eq_true c4
     clear c4
     by_cases c5 : 0≤x5_1
     ·rw[if_pos c5] at H
      have c5b0:decide (0≤x5_1)=true:=decide_eq_true c5
      clear c5
      replace H:=jq8.mp H
      obtain⟨t102,A60,H⟩:=H
      try dsimp only at H
      have A6:=X.mk A60
      clear A60
      by_cases c7:t102 < 0
      ·rw[if_pos c7] at H
       have c7b0:decide (t102 < 0)=true:=decide_eq_true c7
       clear c7
       obtain rfl:=Option.some.inj H
       have p101 : 0≤(x5_1:Int):=of_decide_eq_true (by assumption)
       have q101:x5_1 < (l0.length:Int):=of_decide_eq_true (by assumption)
       obtain⟨ad101,A101_1,c101_1,A101_2,c101_2,A101_3,c101_3,A101_4,c101_4,e101,hx101_0,hx101_1,hx101_2,hx101_3,hx101_4,hl101_1,hi101_1,hl101_2,hi101_2,hl101_3,hi101_3,hl101_4,hi101_4⟩:=at_T96 HR0.out x5_1 p101 q101
       cases e101
       replace hx101_0:=(HB.out.cell (World.block_lt_of_cell? w _ hx101_0)).trans hx101_0
       replace hx101_1:=(HB.out.cell (World.block_lt_of_cell? w _ hx101_1)).trans hx101_1
       replace hx101_2:=(HB.out.cell (World.block_lt_of_cell? w _ hx101_2)).trans hx101_2
       replace hx101_3:=(HB.out.cell (World.block_lt_of_cell? w _ hx101_3)).trans hx101_3
       replace hx101_4:=(HB.out.cell (World.block_lt_of_cell? w _ hx101_4)).trans hx101_4
       have HR101_1:=X.mk hi101_1
       have HC101_1:=X.mk hl101_1
       clear hi101_1 hl101_1
       have HR101_2:=X.mk hi101_2
       have HC101_2:=X.mk hl101_2
       clear hi101_2 hl101_2
       have HR101_3:=X.mk hi101_3
       have HC101_3:=X.mk hl101_3
       clear hi101_3 hl101_3
       have HR101_4:=X.mk hi101_4
       have HC101_4:=X.mk hl101_4
       clear hi101_4 hl101_4
       replace p101:=eq_true p101
       replace q101:=eq_true q101
       go_wp2_with (first|((with_reducible refine zw (f:=72) rfl ?_);refine goesL_ (some 23) rfl rfl Try.func72 (by kernel_rfl) rfl #[.agg #[.string ((kx l0 x5_1).f0),.slice A101_1 ((kx l0 x5_1).f1).length c101_1,.slice A101_2 ((kx l0 x5_1).f2).length c101_2,.slice A101_3 ((kx l0 x5_1).f3).length c101_3,.slice A101_4 ((kx l0 x5_1).f4).length c101_4],.int .i64 x1_1] rfl (by(try simp only[jq0,jq1,jq2]);first|done|rfl|(simp only[jq3,jq4];rfl)) ?_;(with_reducible refine(qzx.calls k1 ((kx l0 x5_1).f0) _ _ ((kx l0 x5_1).f1) _ _ ((kx l0 x5_1).f2) _ _ ((kx l0 x5_1).f3) _ _ ((kx l0 x5_1).f4) x1_1 t102 _ ?side1 ?side2 ?side3 ?side4 ?side5 ?side6 ?side7 ?side8 A6.out).mono ?_);(case side1=>solve_by_elim only[(Kd.C_below HR101_1.out HB.out),Kd.C_alloc,Kd.C_drewN,Kd.C_drew]);(case side2=>exact HC101_1.out);(case side3=>solve_by_elim only[(Kd.C_below HR101_2.out HB.out),Kd.C_alloc,Kd.C_drewN,Kd.C_drew]);(case side4=>exact HC101_2.out);(case side5=>solve_by_elim only[(Kd.C_below HR101_3.out HB.out),Kd.C_alloc,Kd.C_drewN,Kd.C_drew]);(case side6=>exact HC101_3.out);(case side7=>solve_by_elim only[(Kd.C_below HR101_4.out HB.out),Kd.C_alloc,Kd.C_drewN,Kd.C_drew]);(case side8=>exact HC101_4.out);rintro e w8 ⟨rfl,hb⟩;refine⟨_,rfl,?_⟩;replace HB:=X.mk (qw (by solve_by_elim only[HB.out,O,U,L]) hb);(try clear hb)))
       go_ret
       exact⟨by first|rfl|(simp[*,zv,zk] <;> rfl),by repeat(first|(with_reducible first|exact HB.out|apply O|apply U|apply L)|exact HB.out)⟩
      ·rw[if_neg c7] at H
       have c7b0:decide (t102 < 0)=false:=decide_eq_false c7
       clear c7
       have H':=X.mk H
       clear H
       have p101 : 0≤(x5_1:Int):=of_decide_eq_true (by assumption)
       have q101:x5_1 < (l0.length:Int):=of_decide_eq_true (by assumption)
       obtain⟨ad101,A101_1,c101_1,A101_2,c101_2,A101_3,c101_3,A101_4,c101_4,e101,hx101_0,hx101_1,hx101_2,hx101_3,hx101_4,hl101_1,hi101_1,hl101_2,hi101_2,hl101_3,hi101_3,hl101_4,hi101_4⟩:=at_T96 HR0.out x5_1 p101 q101
       cases e101
       replace hx101_0:=(HB.out.cell (World.block_lt_of_cell? w _ hx101_0)).trans hx101_0
       replace hx101_1:=(HB.out.cell (World.block_lt_of_cell? w _ hx101_1)).trans hx101_1
       replace hx101_2:=(HB.out.cell (World.block_lt_of_cell? w _ hx101_2)).trans hx101_2
       replace hx101_3:=(HB.out.cell (World.block_lt_of_cell? w _ hx101_3)).trans hx101_3
       replace hx101_4:=(HB.out.cell (World.block_lt_of_cell? w _ hx101_4)).trans hx101_4
       have HR101_1:=X.mk hi101_1
       have HC101_1:=X.mk hl101_1
       clear hi101_1 hl101_1
       have HR101_2:=X.mk hi101_2
       have HC101_2:=X.mk hl101_2
       clear hi101_2 hl101_2
       have HR101_3:=X.mk hi101_3
       have HC101_3:=X.mk hl101_3
       clear hi101_3 hl101_3
       have HR101_4:=X.mk hi101_4
       have HC101_4:=X.mk hl101_4
       clear hi101_4 hl101_4
       replace p101:=eq_true p101
       replace q101:=eq_true q101
       go_wp2_with (first|((with_reducible refine zw (f:=72) rfl ?_);refine goesL_ (some 23) rfl rfl Try.func72 (by kernel_rfl) rfl #[.agg #[.string ((kx l0 x5_1).f0),.slice A101_1 ((kx l0 x5_1).f1).length c101_1,.slice A101_2 ((kx l0 x5_1).f2).length c101_2,.slice A101_3 ((kx l0 x5_1).f3).length c101_3,.slice A101_4 ((kx l0 x5_1).f4).length c101_4],.int .i64 x1_1] rfl (by(try simp only[jq0,jq1,jq2]);first|done|rfl|(simp only[jq3,jq4];rfl)) ?_;(with_reducible refine(qzx.calls k1 ((kx l0 x5_1).f0) _ _ ((kx l0 x5_1).f1) _ _ ((kx l0 x5_1).f2) _ _ ((kx l0 x5_1).f3) _ _ ((kx l0 x5_1).f4) x1_1 t102 _ ?side1 ?side2 ?side3 ?side4 ?side5 ?side6 ?side7 ?side8 A6.out).mono ?_);(case side1=>solve_by_elim only[(Kd.C_below HR101_1.out HB.out),Kd.C_alloc,Kd.C_drewN,Kd.C_drew]);(case side2=>exact HC101_1.out);(case side3=>solve_by_elim only[(Kd.C_below HR101_2.out HB.out),Kd.C_alloc,Kd.C_drewN,Kd.C_drew]);(case side4=>exact HC101_2.out);(case side5=>solve_by_elim only[(Kd.C_below HR101_3.out HB.out),Kd.C_alloc,Kd.C_drewN,Kd.C_drew]);(case side6=>exact HC101_3.out);(case side7=>solve_by_elim only[(Kd.C_below HR101_4.out HB.out),Kd.C_alloc,Kd.C_drewN,Kd.C_drew]);(case side8=>exact HC101_4.out);rintro e w9 ⟨rfl,hb⟩;refine⟨_,rfl,?_⟩;replace HB:=X.mk (qw (by solve_by_elim only[HB.out,O,U,L]) hb);(try clear hb)))
       go_roundg k1
       case measure=>have:=HK1.out;omega
       case rel=>exact⟨(t102),(wrap64 (x5_1 + 1)),(by first|rfl|(simp;done)|(simp[*];done)),(by first|rfl|(simp;done)|(simp[*];done)),H',⟨by have:=HK1.out;omega⟩,⟨by repeat(first|(with_reducible first|exact HB.out|apply O|apply U|apply L)|exact HB.out)⟩⟩
     ·rw[if_neg c5] at H
      exact absurd H (by simp)
    ·rw[if_neg c4] at H
     have c4b0:decide (x5_1 < (l0.length:Int))=false:=decide_eq_false c4
     clear c4
     obtain rfl:=Option.some.inj H
     go_wp2
     go_ret
     exact⟨by first|rfl|(simp[*,zv,zk] <;> rfl),by repeat(first|(with_reducible first|exact HB.out|apply O|apply U|apply L)|exact HB.out)⟩
def qkq.l0:Nat→List (S96)→List (S77)→Int→Option ((List (S77)))
 | 0,_,_,_=>none
 | k + 1,x0,x3,x4=>if x4 < (x0.length:Int) then(if 0≤x4 then((qjx.f k ((kx x0 x4).f0) ((kx x0 x4).f1) ((kx x0 x4).f2) ((kx x0 x4).f3) ((kx x0 x4).f4)).bind fun bt105=>(if x4 < (x3.length:Int) then(qkq.l0 k x0 (x3.set (x4:Int).toNat (⟨bt105.1,bt105.2.1,bt105.2.2.1,bt105.2.2.2.1,bt105.2.2.2.2⟩ : S77)) (wrap64 (x4 + 1))) else(none))) else(none)) else(some x3)
def qkq.f (k:Nat) (l0:List (S96)):Option ((List (S77))):=if 0≤(l0.length:Int) then(if ((l0.length:Int):Int).toNat≤2513169434916 then(qkq.l0 k l0 (List.replicate ((l0.length:Int):Int).toNat z77) 0) else(none)) else(none)
theorem qkq.calls (k:Nat) (A0:Option Addr) (c0:Nat) (l0:List (S96)) (r:List (S77)) (w:World) (hr0:Kd.C k96 w A0 l0.length l0) (hc0:l0.length≤c0) (h:qkq.f k l0=some r) :
  Calls Try.prog 46 #[.slice A0 l0.length c0] w fun e w'=>∃ v0_:Value,e=.returned (v0_)∧Kd.S k77 77 w' w.heap.size (fun _=>True) v0_ r∧Below w.heap.size w w':=by
 have hu96:=Try.underlying96
 have hu77:=Try.underlying77
 have HR0:=X.mk hr0
 have HC0:=X.mk hc0
 clear hr0 hc0
 have HB:=X.mk (Below.refl w.heap.size w)
 unfold qkq.f at h
 have H:=h
 clear h
 by_cases c2 : 0≤(l0.length:Int)
 ·rw[if_pos c2] at H
  have c2b0:=eq_true c2
  have c2b1:decide (0≤(l0.length:Int))=true:=decide_eq_true c2
  clear c2
  by_cases c3:((l0.length:Int):Int).toNat≤2513169434916
  ·rw[if_pos c3] at H
   have c3b0:=eq_true c3
   have c3b1:decide (((l0.length:Int):Int).toNat≤2513169434916)=true:=decide_eq_true c3
   clear c3
   obtain⟨y101,hy101⟩ : ∃ y_:List (S77),y_=(List.replicate ((l0.length:Int):Int).toNat z77):=⟨_,rfl⟩
   replace H:(qkq.l0 k l0 y101 0)=some r:=by first|(rw[hy101];with_reducible exact H)|(have H2_:=(Option.bind_some _ _).symm.trans H;rw[hy101];with_reducible exact H2_)|(have H2_:=(Option.bind_some _ _).symm.trans H;with_reducible exact H2_)|with_reducible exact H|(rw[hy101];exact H)|exact H
   have Ny101:=X.mk hy101
   clear hy101
   have H':=X.mk H
   clear H
   go_enter Try.func46,Try.ntmps46
   go_wp2_with (first|((with_reducible refine gate_dst (N:=7) rfl ?_);refine Kd.S_make k77 _ 77 rfl (N:=7) rfl 43 _ _ rfl (l0.length:Int) rfl rfl Try.underlying43 (.agg #[(.string ⟨#[]⟩),(.slice none 0 0),(.slice none 0 0),(.slice none 0 0),(.slice none 0 0)]) 112 info77 rfl (by decide) (by omega) z77 (ok:=fun _=>True) (okp:=fun _=>True) (k77_mkM _ _ _ z77 (Kd.R_nil _ _ _ _ _) (Kd.R_nil _ _ _ _ _) (Kd.R_nil _ _ _ _ _) (Kd.R_nil _ _ _ _ _)) (fun _ hk=>hk) trivial (of_decide_eq_true (by assumption)) (Nat.le_trans (Nat.mul_le_mul_right _ (of_decide_eq_true (by assumption):(l0.length:Int).toNat≤2513169434916)) (by omega)) (Below.refl _ _) (Nat.le_refl _) ?_;intro v102 w4 ho5 hb hg_ hnew_;clear hg_ hnew_;(first|rw[← Ny101.out] at ho5|(simp only[Int.reduceToNat] at ho5;rw[← Ny101.out] at ho5));have HO103:=X.mk (Kd.S_lower ho5 (qx (by solve_by_elim only[HB.out,O,U,L])));replace HB:=X.mk (qw (by solve_by_elim only[HB.out,O,U,L]) hb);clear hb ho5))
   go_loopg [4] k (fun kq v4 w'=>∃ (x3_1:List (S77)) (x4_1:Int),v4=.int .i64 x4_1∧X (qkq.l0 kq l0 x3_1 x4_1=some r)∧X (kq≤k)∧X (Kd.S k77 77 w' w.heap.size (fun _=>True) v102 x3_1)∧X (Below w.heap.size w w'))
   case atStart=>exact⟨(y101),(0),(by first|rfl|(simp;done)|(simp[*];done)),H',⟨Nat.le_refl _⟩,⟨by(with_reducible repeat(first|apply Kd.jk|apply Kd.jj|apply Kd.jv));exact HO103.out⟩,⟨by repeat(first|(with_reducible first|exact HB.out|apply O|apply U|apply L)|exact HB.out)⟩⟩
   case round =>
    clear H'
    try clear c2
    try clear c2b0
    try clear c2b1
    try clear p2
    try clear c3
    try clear c3b0
    try clear c3b1
    try clear c4
    obtain⟨x3_1,x4_1,rfl,HA,HK1,HO_3,HB⟩:=hrel
    cases gk with
    | zero=>exact absurd HA.out (by simp[qkq.l0])
    | succ k1 =>
     have H:=HA.out
     clear HA
     simp only[qkq.l0] at H
     by_cases c6:x4_1 < (l0.length:Int)
     ·rw[if_pos c6] at H
      have c6b0:decide (x4_1 < (l0.length:Int))=true:=decide_eq_true c6
      clear c6
      by_cases c7 : 0≤x4_1
      ·rw[if_pos c7] at H
       have c7b0:decide (0≤x4_1)=true:=decide_eq_true c7
       clear c7
       replace H:=jq8.mp H
       obtain⟨⟨t105,t106,t109,t112,t115⟩,A80,H⟩:=H
       try dsimp only at H
       have A8:=X.mk A80
       clear A80
       by_cases c9:x4_1 < (x3_1.length:Int)
       ·rw[if_pos c9] at H
        have c9b0:decide (x4_1 < (x3_1.length:Int))=true:=decide_eq_true c9
        clear c9
        obtain⟨y118,hy118⟩ : ∃ y_:List (S77),y_=(x3_1.set (x4_1:Int).toNat (⟨t105,t106,t109,t112,t115⟩ : S77)):=⟨_,rfl⟩
        replace H:(qkq.l0 k1 l0 y118 (wrap64 (x4_1 + 1)))=some r:=by first|(rw[hy118];with_reducible exact H)|(have H2_:=(Option.bind_some _ _).symm.trans H;rw[hy118];with_reducible exact H2_)|(have H2_:=(Option.bind_some _ _).symm.trans H;with_reducible exact H2_)|with_reducible exact H|(rw[hy118];exact H)|exact H
        have Ny118:=X.mk hy118
        clear hy118
        have H':=X.mk H
        clear H
        have p104 : 0≤(x4_1:Int):=of_decide_eq_true (by assumption)
        have q104:x4_1 < (l0.length:Int):=of_decide_eq_true (by assumption)
        obtain⟨ad104,A104_1,c104_1,A104_2,c104_2,A104_3,c104_3,A104_4,c104_4,e104,hx104_0,hx104_1,hx104_2,hx104_3,hx104_4,hl104_1,hi104_1,hl104_2,hi104_2,hl104_3,hi104_3,hl104_4,hi104_4⟩:=at_T96 HR0.out x4_1 p104 q104
        cases e104
        replace hx104_0:=(HB.out.cell (World.block_lt_of_cell? w _ hx104_0)).trans hx104_0
        replace hx104_1:=(HB.out.cell (World.block_lt_of_cell? w _ hx104_1)).trans hx104_1
        replace hx104_2:=(HB.out.cell (World.block_lt_of_cell? w _ hx104_2)).trans hx104_2
        replace hx104_3:=(HB.out.cell (World.block_lt_of_cell? w _ hx104_3)).trans hx104_3
        replace hx104_4:=(HB.out.cell (World.block_lt_of_cell? w _ hx104_4)).trans hx104_4
        have HR104_1:=X.mk hi104_1
        have HC104_1:=X.mk hl104_1
        clear hi104_1 hl104_1
        have HR104_2:=X.mk hi104_2
        have HC104_2:=X.mk hl104_2
        clear hi104_2 hl104_2
        have HR104_3:=X.mk hi104_3
        have HC104_3:=X.mk hl104_3
        clear hi104_3 hl104_3
        have HR104_4:=X.mk hi104_4
        have HC104_4:=X.mk hl104_4
        clear hi104_4 hl104_4
        replace p104:=eq_true p104
        replace q104:=eq_true q104
        go_wp2_with (first|((with_reducible refine zw (f:=75) rfl ?_);refine goesL_ (some 20) rfl rfl Try.func75 (by kernel_rfl) rfl #[.agg #[.string ((kx l0 x4_1).f0),.slice A104_1 ((kx l0 x4_1).f1).length c104_1,.slice A104_2 ((kx l0 x4_1).f2).length c104_2,.slice A104_3 ((kx l0 x4_1).f3).length c104_3,.slice A104_4 ((kx l0 x4_1).f4).length c104_4]] rfl (by(try simp only[jq0,jq1,jq2]);first|done|rfl|(simp only[jq3,jq4];rfl)) ?_;(with_reducible refine(qjx.calls k1 ((kx l0 x4_1).f0) _ _ ((kx l0 x4_1).f1) _ _ ((kx l0 x4_1).f2) _ _ ((kx l0 x4_1).f3) _ _ ((kx l0 x4_1).f4) t105 t106 t109 t112 t115 _ ?side1 ?side2 ?side3 ?side4 ?side5 ?side6 ?side7 ?side8 A8.out).mono ?_);(case side1=>solve_by_elim only[(Kd.C_below HR104_1.out HB.out),Kd.C_alloc,Kd.C_drewN,Kd.C_drew]);(case side2=>exact HC104_1.out);(case side3=>solve_by_elim only[(Kd.C_below HR104_2.out HB.out),Kd.C_alloc,Kd.C_drewN,Kd.C_drew]);(case side4=>exact HC104_2.out);(case side5=>solve_by_elim only[(Kd.C_below HR104_3.out HB.out),Kd.C_alloc,Kd.C_drewN,Kd.C_drew]);(case side6=>exact HC104_3.out);(case side7=>solve_by_elim only[(Kd.C_below HR104_4.out HB.out),Kd.C_alloc,Kd.C_drewN,Kd.C_drew]);(case side8=>exact HC104_4.out);rintro e w11 ⟨v107,v110,v113,v116,rfl,ho0,ho1,ho2,ho3,hb⟩;refine⟨_,rfl,?_⟩;replace HO_3:=X.mk (Kd.S_mono (Kd.S_told (Kd.S_told (Kd.S_told (Kd.S_told (Kd.S_old (by solve_by_elim only[HO_3.out,Kd.jk,Kd.jj,Kd.jv]) hb) (Kd.R_base ho0)) (Kd.R_base ho1)) (Kd.R_base ho2)) (Kd.R_base ho3)) (fun _ h_=>h_.1));have HO108:=X.mk (Kd.R_lower ho0 (qx (by solve_by_elim only[HB.out,O,U,L])));have HO111:=X.mk (Kd.R_lower ho1 (qx (by solve_by_elim only[HB.out,O,U,L])));have HO114:=X.mk (Kd.R_lower ho2 (qx (by solve_by_elim only[HB.out,O,U,L])));have HO117:=X.mk (Kd.R_lower ho3 (qx (by solve_by_elim only[HB.out,O,U,L])));replace HB:=X.mk (qw (by solve_by_elim only[HB.out,O,U,L]) hb);(try clear hb ho0 ho1 ho2 ho3 hM10 hM12);have p10 : 0≤(x4_1:Int):=of_decide_eq_true (by assumption);have q10:(x4_1:Int) < ((x3_1.length:Int):Int):=of_decide_eq_true (by assumption);obtain⟨go10,co10,eo10,gb10,gl10,cl10,HG10⟩:=Kd.S_form HO_3.out (by omega);(first|cases eo10|(injection eo10 with ea_ en_ ec_;(first|subst ea_|(injection ea_ with ea_;subst ea_));subst ec_;clear en_));have GB10:=X.mk gb10;have GG10:=X.mk HG10;clear gb10 gl10 HG10;obtain⟨_,ce10,hcl10,hM10,hcc10,hfr10,_,_⟩:=Kd.S_elem HO_3.out z77 (x4_1:Int) p10 q10;obtain⟨ve10_1,ve10_2,ve10_3,ve10_4,rfl,ge10_1,ge10_2,ge10_3,ge10_4⟩:=k77_openM hM10;have hx10_0:w11.cell? ⟨go10,(x4_1:Int).toNat * 5,none⟩ = some (.string ((kw x3_1 x4_1).f0)):=hcc10 0 _ rfl;have hx10_1:w11.cell? ⟨go10,(x4_1:Int).toNat * 5 + 1,none⟩ = some (ve10_1):=hcc10 1 _ rfl;have hx10_2:w11.cell? ⟨go10,(x4_1:Int).toNat * 5 + 2,none⟩ = some (ve10_2):=hcc10 2 _ rfl;have hx10_3:w11.cell? ⟨go10,(x4_1:Int).toNat * 5 + 3,none⟩ = some (ve10_3):=hcc10 3 _ rfl;have hx10_4:w11.cell? ⟨go10,(x4_1:Int).toNat * 5 + 4,none⟩ = some (ve10_4):=hcc10 4 _ rfl;have hf10_0:w11.frozen? ⟨go10,(x4_1:Int).toNat * 5,none⟩ = false:=hfr10 0;have hf10_1:w11.frozen? ⟨go10,(x4_1:Int).toNat * 5 + 1,none⟩ = false:=hfr10 1;have hf10_2:w11.frozen? ⟨go10,(x4_1:Int).toNat * 5 + 2,none⟩ = false:=hfr10 2;have hf10_3:w11.frozen? ⟨go10,(x4_1:Int).toNat * 5 + 3,none⟩ = false:=hfr10 3;have hf10_4:w11.frozen? ⟨go10,(x4_1:Int).toNat * 5 + 4,none⟩ = false:=hfr10 4;clear hcl10 hcc10 hfr10;replace p10:=eq_true p10;replace q10:=eq_true q10;have n_:=X.mk (Kd.S_mono (ok':=(fun k_=>some k_≠(v107:Value).ownBlock∧some k_≠(v110:Value).ownBlock∧some k_≠(v113:Value).ownBlock∧some k_≠(v116:Value).ownBlock)) HO_3.out (fun k_ hk=>⟨hk.1.1.1.2,⟨hk.1.1.2,⟨hk.1.2,hk.2⟩⟩⟩));have HO_3:=n_;clear n_;have HX12:=X.mk (show Kd.S k77 77 w11 w.heap.size (fun k_=>((fun _=>True)) k_∧¬ ((fun k_=>some k_=(v107:Value).ownBlock∨some k_=(v110:Value).ownBlock∨some k_=(v113:Value).ownBlock∨some k_=(v116:Value).ownBlock)) k_) (.slice (some ⟨go10,0,none⟩) x3_1.length co10) x3_1 from(by(with_reducible repeat(first|apply Kd.jk|apply Kd.jj|apply Kd.jv));exact Kd.S_mono HO_3.out (fun k_ hk=>⟨trivial,fun e_=>e_.elim (fun h_=>hk.1 h_) (fun h_=>h_.elim (fun h_=>hk.2.1 h_) (fun h_=>h_.elim (fun h_=>hk.2.2.1 h_) (fun h_=>hk.2.2.2 h_)))⟩)));obtain⟨oki12,ce12,hcl12,hM12,hcc12,hfr12,hoki12,hH12⟩:=Kd.S_elem HX12.out z77 (x4_1:Int) (of_decide_eq_true (by assumption)) (by have h_:(x4_1:Int) < ((x3_1.length:Int):Int):=of_decide_eq_true (by assumption);first|exact h_|(have e_:=(Kd.S_reads' HO_3.out).1;omega)|simpa using h_);obtain⟨ve12_1,ve12_2,ve12_3,ve12_4,rfl,ge12_1,ge12_2,ge12_3,ge12_4⟩:=k77_openM hM12;have HP12:=Kd.S_seg hH12 (of_decide_eq_true (by assumption)) (by have h_:(x4_1:Int) < ((x3_1.length:Int):Int):=of_decide_eq_true (by assumption);first|exact h_|(have e_:=(Kd.S_reads' HO_3.out).1;omega)|simpa using h_) (seg:=[.string t105,v107,v110,v113,v116]) (j:=0) (show 5≤5 from by decide) (x':=(⟨t105,t106,t109,t112,t115⟩ : S77)) (k77_mkM _ _ _ (⟨t105,t106,t109,t112,t115⟩ : S77) (Kd.R_mono (Kd.R_tight rfl (Kd.R_mono (ok':=fun k_=>((fun _=>True)) k_∧k_≠go10) (Kd.R_apart' (HO108.out) (Kd.S_typed HO_3.out) (by decide)) (fun k_ hk=>⟨trivial,fun e_=>(hk.2) (by rw[e_];rfl)⟩))) (fun _ h_=>Or.inr (Or.inl h_))) (Kd.R_mono (Kd.R_tight rfl (Kd.R_mono (ok':=fun k_=>((fun _=>True)) k_∧k_≠go10) (Kd.R_apart' (HO111.out) (Kd.S_typed HO_3.out) (by decide)) (fun k_ hk=>⟨trivial,fun e_=>(hk.2) (by rw[e_];rfl)⟩))) (fun _ h_=>Or.inr (Or.inr (Or.inl h_)))) (Kd.R_mono (Kd.R_tight rfl (Kd.R_mono (ok':=fun k_=>((fun _=>True)) k_∧k_≠go10) (Kd.R_apart' (HO114.out) (Kd.S_typed HO_3.out) (by decide)) (fun k_ hk=>⟨trivial,fun e_=>(hk.2) (by rw[e_];rfl)⟩))) (fun _ h_=>Or.inr (Or.inr (Or.inr (Or.inl h_))))) (Kd.R_mono (Kd.R_tight rfl (Kd.R_mono (ok':=fun k_=>((fun _=>True)) k_∧k_≠go10) (Kd.R_apart' (HO117.out) (Kd.S_typed HO_3.out) (by decide)) (fun k_ hk=>⟨trivial,fun e_=>(hk.2) (by rw[e_];rfl)⟩))) (fun _ h_=>Or.inr (Or.inr (Or.inr (Or.inr (h_))))))) (fun _ hk=>hk) (fun k_ hk_=>hk_.elim (fun h_=>((Kd.R_mono (ok':=fun k_=>((fun _=>True)) k_∧k_≠go10) (Kd.R_apart' (HO108.out) (Kd.S_typed HO_3.out) (by decide)) (fun k_ hk=>⟨trivial,fun e_=>(hk.2) (by rw[e_];rfl)⟩))).1 k_ h_.symm) (fun h_=>h_.elim (fun h_=>((Kd.R_mono (ok':=fun k_=>((fun _=>True)) k_∧k_≠go10) (Kd.R_apart' (HO111.out) (Kd.S_typed HO_3.out) (by decide)) (fun k_ hk=>⟨trivial,fun e_=>(hk.2) (by rw[e_];rfl)⟩))).1 k_ h_.symm) (fun h_=>h_.elim (fun h_=>((Kd.R_mono (ok':=fun k_=>((fun _=>True)) k_∧k_≠go10) (Kd.R_apart' (HO114.out) (Kd.S_typed HO_3.out) (by decide)) (fun k_ hk=>⟨trivial,fun e_=>(hk.2) (by rw[e_];rfl)⟩))).1 k_ h_.symm) (fun h_=>((Kd.R_mono (ok':=fun k_=>((fun _=>True)) k_∧k_≠go10) (Kd.R_apart' (HO117.out) (Kd.S_typed HO_3.out) (by decide)) (fun k_ hk=>⟨trivial,fun e_=>(hk.2) (by rw[e_];rfl)⟩))).1 k_ h_.symm))));have hx12_0:=hcc12 0 _ rfl;(try simp only[show(k77).sz=5 from rfl,Nat.mul_one,Nat.add_zero] at hx12_0);have hf12_0:=hfr12 0;(try simp only[show(k77).sz=5 from rfl,Nat.mul_one,Nat.add_zero] at hf12_0);have hx12_1:=hcc12 1 _ rfl;(try simp only[show(k77).sz=5 from rfl,Nat.mul_one,Nat.add_zero] at hx12_1);have hf12_1:=hfr12 1;(try simp only[show(k77).sz=5 from rfl,Nat.mul_one,Nat.add_zero] at hf12_1);have hx12_2:=hcc12 2 _ rfl;(try simp only[show(k77).sz=5 from rfl,Nat.mul_one,Nat.add_zero] at hx12_2);have hf12_2:=hfr12 2;(try simp only[show(k77).sz=5 from rfl,Nat.mul_one,Nat.add_zero] at hf12_2);have hx12_3:=hcc12 3 _ rfl;(try simp only[show(k77).sz=5 from rfl,Nat.mul_one,Nat.add_zero] at hx12_3);have hf12_3:=hfr12 3;(try simp only[show(k77).sz=5 from rfl,Nat.mul_one,Nat.add_zero] at hf12_3);have hx12_4:=hcc12 4 _ rfl;(try simp only[show(k77).sz=5 from rfl,Nat.mul_one,Nat.add_zero] at hx12_4);have hf12_4:=hfr12 4;(try simp only[show(k77).sz=5 from rfl,Nat.mul_one,Nat.add_zero] at hf12_4);clear hcl12 hcc12 hfr12 hoki12 hH12)|((with_reducible refine zx (t:=77) (p:=21) rfl ?_);refine jq (t:=77) (p:=21) (v:=?vo_w13) (w1:=(((((w11.setCell ⟨go10,(x4_1:Int).toNat * 5,none⟩ (.string t105)).setCell ⟨go10,(x4_1:Int).toNat * 5 + 1,none⟩ (v107)).setCell ⟨go10,(x4_1:Int).toNat * 5 + 2,none⟩ (v110)).setCell ⟨go10,(x4_1:Int).toNat * 5 + 3,none⟩ (v113)).setCell ⟨go10,(x4_1:Int).toNat * 5 + 4,none⟩ (v116))) ?hg ?ho ?hn ?hr ?_;(case ho=>rfl);(case hg=>rfl);(case hn=>rfl);(case hr=>first|(go_simp;done)|(go_simp;rfl)|(obtain⟨A0_,c0_,e0_⟩:=Kd.R_slice HO108.out;obtain⟨A1_,c1_,e1_⟩:=Kd.R_slice HO111.out;obtain⟨A2_,c2_,e2_⟩:=Kd.R_slice HO114.out;obtain⟨A3_,c3_,e3_⟩:=Kd.R_slice HO117.out;subst e0_;subst e1_;subst e2_;subst e3_;first|(go_simp;done)|(go_simp;rfl)));intro w13 hw;have hg:w11.grownBy w13 (some go10):=(by rw[hw];exact HP12.2);have hp_:Kd.S k77 77 w13 w.heap.size (fun _=>True) (.slice (some ⟨go10,0,none⟩) x3_1.length co10) y118:=(by rw[hw,Ny118.out];exact HP12.1);clear HP12;replace HO_3:=X.mk (hp_);replace HB:=X.mk ((by rw[hw];exact qq (qq (qq (qq (qq (HB.out) GB10.out) GB10.out) GB10.out) GB10.out) GB10.out:Below w.heap.size w w13));clear HO108;clear HO111;clear HO114;clear HO117;clear hg hw hp_))
        go_roundg k1
        case measure=>have:=HK1.out;omega
        case rel=>exact⟨(y118),(wrap64 (x4_1 + 1)),(by first|rfl|(simp;done)|(simp[*];done)),H',⟨by have:=HK1.out;omega⟩,⟨by(with_reducible repeat(first|apply Kd.jk|apply Kd.jj|apply Kd.jv));exact HO_3.out⟩,⟨by repeat(first|(with_reducible first|exact HB.out|apply O|apply U|apply L)|exact HB.out)⟩⟩
       ·rw[if_neg c9] at H
        exact absurd H (by simp)
      ·rw[if_neg c7] at H
       exact absurd H (by simp)
     ·rw[if_neg c6] at H
      have c6b0:decide (x4_1 < (l0.length:Int))=false:=decide_eq_false c6
      clear c6
      obtain rfl:=Option.some.inj H
      go_wp2
      go_ret
      exact⟨_,by first|rfl|(simp[*,zv,zk] <;> rfl),by(with_reducible repeat(first|apply Kd.jk|apply Kd.jj|apply Kd.jv));exact HO_3.out,by repeat(first|(with_reducible first|exact HB.out|apply O|apply U|apply L)|exact HB.out)⟩
  ·rw[if_neg c3] at H
   exact absurd H (by simp)
 ·rw[if_neg c2] at H
  exact absurd H (by simp)
def qzq.l0:Nat→List (S77)→List (S77)→Int→Option (Bool)
 | 0,_,_,_=>none
 | k + 1,x0,x1,x5=>if x5 < (x0.length:Int) then(if 0≤x5 then(if x5 < (x1.length:Int) then((qqx.f k ((kw x0 x5).f0) ((kw x0 x5).f1) ((kw x0 x5).f2) ((kw x0 x5).f3) ((kw x0 x5).f4) ((kw x1 x5).f0) ((kw x1 x5).f1) ((kw x1 x5).f2) ((kw x1 x5).f3) ((kw x1 x5).f4)).bind fun t103=>(if t103=true then(qzq.l0 k x0 x1 (wrap64 (x5 + 1))) else(some false))) else(none)) else(none)) else(some true)
def qzq.f (k:Nat) (l0:List (S77)) (l1:List (S77)):Option (Bool):=if (l0.length:Int)=(l1.length:Int) then(qzq.l0 k l0 l1 0) else(some false)
def qzq.T6:Bool × List (List Nat × List Nat):=(true,[([],[]),([],[]),([0,1],[0,1]),([2],[2]),([],[]),([],[]),([4,5],[4,5]),([6],[6]),([3,7],[3,7]),([8],[8])])
def qzq.B6:List Nat:=[0,0,3,7,0,0,48,112,255,511]
theorem qzq.tab6:rtab .any (opsOf Try.f53 6)=qzq.T6:=by kernel_rfl
theorem qzq.bits6:waitsOk qzq.T6.2 qzq.B6=true:=by kernel_rfl
theorem qzq.calls (k:Nat) (A0:Option Addr) (c0:Nat) (l0:List (S77)) (A1:Option Addr) (c1:Nat) (l1:List (S77)) (r:Bool) (w:World) (hr0:Kd.C k77 w A0 l0.length l0) (hc0:l0.length≤c0) (hr1:Kd.C k77 w A1 l1.length l1) (hc1:l1.length≤c1) (h:qzq.f k l0 l1=some r) :
  Calls Try.prog 53 #[.slice A0 l0.length c0,.slice A1 l1.length c1] w fun e w'=>e=.returned (.bool r)∧Below w.heap.size w w':=by
 have hu77:=Try.underlying77
 have HR0:=X.mk hr0
 have HC0:=X.mk hc0
 clear hr0 hc0
 have HR1:=X.mk hr1
 have HC1:=X.mk hc1
 clear hr1 hc1
 have HB:=X.mk (Below.refl w.heap.size w)
 unfold qzq.f at h
 have H:=h
 clear h
 by_cases c3:(l0.length:Int)=(l1.length:Int)
 ·rw[if_pos c3] at H
  have c3b0:((l0.length:Int) == (l1.length:Int))=true:=beq_iff_eq.mpr c3
  have c3b1:((l0.length:Int) != (l1.length:Int))=false:=bne_eq_false_iff_eq.mpr c3
  have c3b2:(l0.length == l1.length)=true:=by first|simpa using c3|(simp at c3 ⊢;omega)
  clear c3
  have H':=X.mk H
  clear H
  go_enter Try.func53,Try.ntmps53
  go_wp2
  go_loopg [5] k (fun kq v5 w'=>∃ (x5_1:Int),v5=.int .i64 x5_1∧X (qzq.l0 kq l0 l1 x5_1=some r)∧X (kq≤k)∧X (Below w.heap.size w w'))
  case atStart=>exact⟨(0),(by first|rfl|(simp;done)|(simp[*];done)),H',⟨Nat.le_refl _⟩,⟨by repeat(first|(with_reducible first|exact HB.out|apply O|apply U|apply L)|exact HB.out)⟩⟩
  case round =>
   clear H'
   try clear c1
   try clear p2
   try clear c3
   try clear c3b0
   try clear c3b1
   try clear c3b2
   obtain⟨x5_1,rfl,HA,HK1,HB⟩:=hrel
   cases gk with
   | zero=>exact absurd HA.out (by simp[qzq.l0])
   | succ k1 =>
    have H:=HA.out
    clear HA
    simp only[qzq.l0] at H
    by_cases c4:x5_1 < (l0.length:Int)
    ·rw[if_pos c4] at H
     have c4b0:decide (x5_1 < (l0.length:Int))=true:=decide_eq_true c4
     clear c4
     by_cases c5 : 0≤x5_1
     ·rw[if_pos c5] at H
      have c5b0:decide (0≤x5_1)=true:=decide_eq_true c5
      clear c5
      by_cases c6:x5_1 < (l1.length:Int)
      ·rw[if_pos c6] at H
       have c6b0:decide (x5_1 < (l1.length:Int))=true:=decide_eq_true c6
       clear c6
       replace H:=jq8.mp H
       obtain⟨t103,A70,H⟩:=H
       try dsimp only at H
       have A7:=X.mk A70
       clear A70
       by_cases c8:t103=true
       ·subst c8
        have H1:(qzq.l0 k1 l0 l1 (wrap64 (x5_1 + 1)))=some r:=by rw[if_pos rfl] at H;exact H
        clear H
        have H:=H1
        clear H1
        have H':=X.mk H
        clear H
        try go_wp2
        replace HB:=X.mk (L HB.out)
        have p101 : 0≤(x5_1:Int):=of_decide_eq_true (by assumption)
        have q101:x5_1 < (l0.length:Int):=of_decide_eq_true (by assumption)
        obtain⟨ad101,A101_1,c101_1,A101_2,c101_2,A101_3,c101_3,A101_4,c101_4,e101,hx101_0,hx101_1,hx101_2,hx101_3,hx101_4,hl101_1,hi101_1,hl101_2,hi101_2,hl101_3,hi101_3,hl101_4,hi101_4⟩:=at_T77 HR0.out x5_1 p101 q101
        have hw101_4:=hx101_4
        have hw101_3:=hx101_3
        have hw101_2:=hx101_2
        have hw101_1:=hx101_1
        have hw101_0:=hx101_0
        cases e101
        replace hx101_0:=(HB.out.cell (World.block_lt_of_cell? w _ hx101_0)).trans hx101_0
        replace hx101_1:=(HB.out.cell (World.block_lt_of_cell? w _ hx101_1)).trans hx101_1
        replace hx101_2:=(HB.out.cell (World.block_lt_of_cell? w _ hx101_2)).trans hx101_2
        replace hx101_3:=(HB.out.cell (World.block_lt_of_cell? w _ hx101_3)).trans hx101_3
        replace hx101_4:=(HB.out.cell (World.block_lt_of_cell? w _ hx101_4)).trans hx101_4
        have HR101_1:=X.mk hi101_1
        have HC101_1:=X.mk hl101_1
        clear hi101_1 hl101_1
        have HR101_2:=X.mk hi101_2
        have HC101_2:=X.mk hl101_2
        clear hi101_2 hl101_2
        have HR101_3:=X.mk hi101_3
        have HC101_3:=X.mk hl101_3
        clear hi101_3 hl101_3
        have HR101_4:=X.mk hi101_4
        have HC101_4:=X.mk hl101_4
        clear hi101_4 hl101_4
        replace p101:=eq_true p101
        replace q101:=eq_true q101
        have p102 : 0≤(x5_1:Int):=of_decide_eq_true (by assumption)
        have q102:x5_1 < (l1.length:Int):=of_decide_eq_true (by assumption)
        obtain⟨ad102,A102_1,c102_1,A102_2,c102_2,A102_3,c102_3,A102_4,c102_4,e102,hx102_0,hx102_1,hx102_2,hx102_3,hx102_4,hl102_1,hi102_1,hl102_2,hi102_2,hl102_3,hi102_3,hl102_4,hi102_4⟩:=at_T77 HR1.out x5_1 p102 q102
        have hw102_4:=hx102_4
        have hw102_3:=hx102_3
        have hw102_2:=hx102_2
        have hw102_1:=hx102_1
        have hw102_0:=hx102_0
        cases e102
        replace hx102_0:=(HB.out.cell (World.block_lt_of_cell? w _ hx102_0)).trans hx102_0
        replace hx102_1:=(HB.out.cell (World.block_lt_of_cell? w _ hx102_1)).trans hx102_1
        replace hx102_2:=(HB.out.cell (World.block_lt_of_cell? w _ hx102_2)).trans hx102_2
        replace hx102_3:=(HB.out.cell (World.block_lt_of_cell? w _ hx102_3)).trans hx102_3
        replace hx102_4:=(HB.out.cell (World.block_lt_of_cell? w _ hx102_4)).trans hx102_4
        have HR102_1:=X.mk hi102_1
        have HC102_1:=X.mk hl102_1
        clear hi102_1 hl102_1
        have HR102_2:=X.mk hi102_2
        have HC102_2:=X.mk hl102_2
        clear hi102_2 hl102_2
        have HR102_3:=X.mk hi102_3
        have HC102_3:=X.mk hl102_3
        clear hi102_3 hl102_3
        have HR102_4:=X.mk hi102_4
        have HC102_4:=X.mk hl102_4
        clear hi102_4 hl102_4
        replace p102:=eq_true p102
        replace q102:=eq_true q102
        refine start_ (n:=10) (S:=fun w'=>w'.cell? (ad101.add ((x5_1).toNat * 5))=some (.string ((kw l0 x5_1).f0))∧w'.cell? ⟨(ad101.add ((x5_1).toNat * 5)).block,(ad101.add ((x5_1).toNat * 5)).off + 1,none⟩ = some (.slice A101_1 ((kw l0 x5_1).f1).length c101_1)∧w'.cell? ⟨(ad101.add ((x5_1).toNat * 5)).block,(ad101.add ((x5_1).toNat * 5)).off + 2,none⟩ = some (.slice A101_2 ((kw l0 x5_1).f2).length c101_2)∧w'.cell? ⟨(ad101.add ((x5_1).toNat * 5)).block,(ad101.add ((x5_1).toNat * 5)).off + 3,none⟩ = some (.slice A101_3 ((kw l0 x5_1).f3).length c101_3)∧w'.cell? ⟨(ad101.add ((x5_1).toNat * 5)).block,(ad101.add ((x5_1).toNat * 5)).off + 4,none⟩ = some (.slice A101_4 ((kw l0 x5_1).f4).length c101_4)∧w'.cell? (ad102.add ((x5_1).toNat * 5))=some (.string ((kw l1 x5_1).f0))∧w'.cell? ⟨(ad102.add ((x5_1).toNat * 5)).block,(ad102.add ((x5_1).toNat * 5)).off + 1,none⟩ = some (.slice A102_1 ((kw l1 x5_1).f1).length c102_1)∧w'.cell? ⟨(ad102.add ((x5_1).toNat * 5)).block,(ad102.add ((x5_1).toNat * 5)).off + 2,none⟩ = some (.slice A102_2 ((kw l1 x5_1).f2).length c102_2)∧w'.cell? ⟨(ad102.add ((x5_1).toNat * 5)).block,(ad102.add ((x5_1).toNat * 5)).off + 3,none⟩ = some (.slice A102_3 ((kw l1 x5_1).f3).length c102_3)∧w'.cell? ⟨(ad102.add ((x5_1).toNat * 5)).block,(ad102.add ((x5_1).toNat * 5)).off + 4,none⟩ = some (.slice A102_4 ((kw l1 x5_1).f4).length c102_4)) (ds:=[]) #[Y,Y,Y,Y,Y,Y,Y,Y,Y,Y] (by kernel_rfl) rfl rfl ⟨((HB.out.cell (World.block_lt_of_cell? w _ hw101_0)).trans hw101_0),((HB.out.cell (World.block_lt_of_cell? w _ hw101_1)).trans hw101_1),((HB.out.cell (World.block_lt_of_cell? w _ hw101_2)).trans hw101_2),((HB.out.cell (World.block_lt_of_cell? w _ hw101_3)).trans hw101_3),((HB.out.cell (World.block_lt_of_cell? w _ hw101_4)).trans hw101_4),((HB.out.cell (World.block_lt_of_cell? w _ hw102_0)).trans hw102_0),((HB.out.cell (World.block_lt_of_cell? w _ hw102_1)).trans hw102_1),((HB.out.cell (World.block_lt_of_cell? w _ hw102_2)).trans hw102_2),((HB.out.cell (World.block_lt_of_cell? w _ hw102_3)).trans hw102_3),((HB.out.cell (World.block_lt_of_cell? w _ hw102_4)).trans hw102_4)⟩ (fun hHeld=>?_);refine with_tabW qzq.tab6 qzq.bits6 (fun HT_ HW_=>?_)
        generalize wr.drew=w9 at HB HR101_1 HR101_2 HR101_3 HR101_4 HR102_1 HR102_2 HR102_3 HR102_4 hx101_0 hx101_1 hx101_2 hx101_3 hx101_4 hx102_0 hx102_1 hx102_2 hx102_3 hx102_4 hHeld ⊢
        refine pure_ (i:=0) (N:=some 17) (v:=?_) (a':=?_) #[Z,Y,Y,Y,Y,Y,Y,Y,Y,Y] rfl rfl (any_of HT_.out (by kernel_rfl)) (fun _ _ _ h=>h) (Or.inl ⟨by rfl,?_⟩) ?_ ?_
        rotate_left
        ·intro w'
         go_simp
         with_reducible rfl
        rotate_left
        ·simp only[Act.put,jq5,jq6,jq7,i64_w,i32_w]
         rfl
        refine pure_ (i:=1) (N:=some 18) (v:=?_) (a':=?_) #[Z,Z,Y,Y,Y,Y,Y,Y,Y,Y] rfl rfl (any_of HT_.out (by kernel_rfl)) (fun _ _ _ h=>h) (Or.inl ⟨by rfl,?_⟩) ?_ ?_
        rotate_left
        ·intro w'
         go_simp
         with_reducible rfl
        rotate_left
        ·simp only[Act.put,jq5,jq6,jq7,i64_w,i32_w]
         rfl
        refine pure_ (i:=2) (N:=some 19) (v:=?_) (a':=?_) #[Z,Z,Z,Y,Y,Y,Y,Y,Y,Y] rfl rfl (any_of HT_.out (by kernel_rfl)) (fun _ _ _ h=>h) (Or.inl ⟨by rfl,?_⟩) ?_ ?_
        rotate_left
        ·intro w'
         go_simp
         with_reducible rfl
        rotate_left
        ·simp only[Act.put,jq5,jq6,jq7,i64_w,i32_w]
         rfl
        refine pure_ (i:=4) (N:=some 21) (v:=?_) (a':=?_) #[Z,Z,Z,Y,Z,Y,Y,Y,Y,Y] rfl rfl (any_of HT_.out (by kernel_rfl)) (fun _ _ _ h=>h) (Or.inl ⟨by rfl,?_⟩) ?_ ?_
        rotate_left
        ·intro w'
         go_simp
         with_reducible rfl
        rotate_left
        ·simp only[Act.put,jq5,jq6,jq7,i64_w,i32_w]
         rfl
        refine pure_ (i:=5) (N:=some 22) (v:=?_) (a':=?_) #[Z,Z,Z,Y,Z,Z,Y,Y,Y,Y] rfl rfl (any_of HT_.out (by kernel_rfl)) (fun _ _ _ h=>h) (Or.inl ⟨by rfl,?_⟩) ?_ ?_
        rotate_left
        ·intro w'
         go_simp
         with_reducible rfl
        rotate_left
        ·simp only[Act.put,jq5,jq6,jq7,i64_w,i32_w]
         rfl
        refine pure_ (i:=6) (N:=some 23) (v:=?_) (a':=?_) #[Z,Z,Z,Y,Z,Z,Z,Y,Y,Y] rfl rfl (any_of HT_.out (by kernel_rfl)) (fun _ _ _ h=>h) (Or.inl ⟨by rfl,?_⟩) ?_ ?_
        rotate_left
        ·intro w'
         go_simp
         with_reducible rfl
        rotate_left
        ·simp only[Act.put,jq5,jq6,jq7,i64_w,i32_w]
         rfl
        refine take_ (i:=3) (N:=some 20) (v:=?_) (a':=?_) #[Z,Z,Z,Z,Z,Z,Z,Y,Y,Y] rfl rfl (take_ofW HT_.out HW_.out (by kernel_rfl)) (fun _ _ _ h=>h) (Or.inl ⟨by rfl,?_⟩) hHeld ?_ ?_
        rotate_left
        ·rintro w' ⟨s0,s1,s2,s3,s4,s5,s6,s7,s8,s9⟩
         go_simp
         with_reducible rfl
        rotate_left
        ·simp only[Act.put,jq5,jq6,jq7,i64_w,i32_w]
         rfl
        refine take_ (i:=7) (N:=some 24) (v:=?_) (a':=?_) #[Z,Z,Z,Z,Z,Z,Z,Z,Y,Y] rfl rfl (take_ofW HT_.out HW_.out (by kernel_rfl)) (fun _ _ _ h=>h) (Or.inl ⟨by rfl,?_⟩) hHeld ?_ ?_
        rotate_left
        ·rintro w' ⟨s0,s1,s2,s3,s4,s5,s6,s7,s8,s9⟩
         go_simp
         with_reducible rfl
        rotate_left
        ·simp only[Act.put,jq5,jq6,jq7,i64_w,i32_w]
         rfl
        refine one_ (i:=8) (N:=some 25) #[Z,Z,Z,Z,Z,Z,Z,Z,Z,Y] rfl rfl (one_of HT_.out (by kernel_rfl)) (by decide) (fun K hK=>?_)
        refine goes_ Try.func80 (by kernel_rfl) rfl #[.agg #[.string ((kw l0 x5_1).f0),.slice A101_1 ((kw l0 x5_1).f1).length c101_1,.slice A101_2 ((kw l0 x5_1).f2).length c101_2,.slice A101_3 ((kw l0 x5_1).f3).length c101_3,.slice A101_4 ((kw l0 x5_1).f4).length c101_4],.agg #[.string ((kw l1 x5_1).f0),.slice A102_1 ((kw l1 x5_1).f1).length c102_1,.slice A102_2 ((kw l1 x5_1).f2).length c102_2,.slice A102_3 ((kw l1 x5_1).f3).length c102_3,.slice A102_4 ((kw l1 x5_1).f4).length c102_4]] (by rfl) rfl rfl (by(try simp only[jq0,jq1,jq2]);first|done|rfl|(simp only[jq3,jq4];rfl)) ?_
        with_reducible refine(qqx.calls k1 ((kw l0 x5_1).f0) _ _ ((kw l0 x5_1).f1) _ _ ((kw l0 x5_1).f2) _ _ ((kw l0 x5_1).f3) _ _ ((kw l0 x5_1).f4) ((kw l1 x5_1).f0) _ _ ((kw l1 x5_1).f1) _ _ ((kw l1 x5_1).f2) _ _ ((kw l1 x5_1).f3) _ _ ((kw l1 x5_1).f4) true _ ?side1 ?side2 ?side3 ?side4 ?side5 ?side6 ?side7 ?side8 ?side9 ?side10 ?side11 ?side12 ?side13 ?side14 ?side15 ?side16 A7.out).mono ?_
        (case side1=>solve_by_elim only[(Kd.C_below HR101_1.out HB.out),Kd.C_alloc,Kd.C_drewN,Kd.C_drew])
        (case side2=>exact HC101_1.out)
        (case side3=>solve_by_elim only[(Kd.C_below HR101_2.out HB.out),Kd.C_alloc,Kd.C_drewN,Kd.C_drew])
        (case side4=>exact HC101_2.out)
        (case side5=>solve_by_elim only[(Kd.C_below HR101_3.out HB.out),Kd.C_alloc,Kd.C_drewN,Kd.C_drew])
        (case side6=>exact HC101_3.out)
        (case side7=>solve_by_elim only[(Kd.C_below HR101_4.out HB.out),Kd.C_alloc,Kd.C_drewN,Kd.C_drew])
        (case side8=>exact HC101_4.out)
        (case side9=>solve_by_elim only[(Kd.C_below HR102_1.out HB.out),Kd.C_alloc,Kd.C_drewN,Kd.C_drew])
        (case side10=>exact HC102_1.out)
        (case side11=>solve_by_elim only[(Kd.C_below HR102_2.out HB.out),Kd.C_alloc,Kd.C_drewN,Kd.C_drew])
        (case side12=>exact HC102_2.out)
        (case side13=>solve_by_elim only[(Kd.C_below HR102_3.out HB.out),Kd.C_alloc,Kd.C_drewN,Kd.C_drew])
        (case side14=>exact HC102_3.out)
        (case side15=>solve_by_elim only[(Kd.C_below HR102_4.out HB.out),Kd.C_alloc,Kd.C_drewN,Kd.C_drew])
        (case side16=>exact HC102_4.out)
        rintro e w10 ⟨rfl,hb⟩
        refine⟨_,rfl,?_⟩
        replace HB:=X.mk (qw (by solve_by_elim only[HB.out,O,U,L]) hb)
        (try clear hb)
        (try clear hb2)
        (try clear hk)
        (try clear hi)
        refine hK.out _ _ ⟨((HB.out.cell (World.block_lt_of_cell? w _ hw101_0)).trans hw101_0),((HB.out.cell (World.block_lt_of_cell? w _ hw101_1)).trans hw101_1),((HB.out.cell (World.block_lt_of_cell? w _ hw101_2)).trans hw101_2),((HB.out.cell (World.block_lt_of_cell? w _ hw101_3)).trans hw101_3),((HB.out.cell (World.block_lt_of_cell? w _ hw101_4)).trans hw101_4),((HB.out.cell (World.block_lt_of_cell? w _ hw102_0)).trans hw102_0),((HB.out.cell (World.block_lt_of_cell? w _ hw102_1)).trans hw102_1),((HB.out.cell (World.block_lt_of_cell? w _ hw102_2)).trans hw102_2),((HB.out.cell (World.block_lt_of_cell? w _ hw102_3)).trans hw102_3),((HB.out.cell (World.block_lt_of_cell? w _ hw102_4)).trans hw102_4)⟩ (fun hHeld=>?_)
        clear hK K
        refine norm_ (a':=?_) ?_ ?_
        rotate_left
        ·show Act.put _ (some 25) _=_
         simp only[Act.put,jq5,jq6,jq7,i64_w,i32_w]
         rfl
        refine pure_ (i:=9) (N:=some 26) (v:=?_) (a':=?_) #[Z,Z,Z,Z,Z,Z,Z,Z,Z,Z] rfl rfl (any_of HT_.out (by kernel_rfl)) (fun _ _ _ h=>h) (Or.inl ⟨by rfl,?_⟩) ?_ ?_
        rotate_left
        ·intro w'
         go_simp
         with_reducible rfl
        rotate_left
        ·simp only[Act.put,jq5,jq6,jq7,i64_w,i32_w]
         rfl
        refine done_ (done_of HT_.out (by kernel_rfl)) ?_
        try go_wp2
        go_roundg k1
        case measure=>have:=HK1.out;omega
        case rel=>exact⟨(wrap64 (x5_1 + 1)),(by first|rfl|(simp;done)|(simp[*];done)),H',⟨by have:=HK1.out;omega⟩,⟨by repeat(first|(with_reducible first|exact HB.out|apply O|apply U|apply L)|exact HB.out)⟩⟩
       ·replace c8:=jq9.mpr c8
        subst c8
        have H1:(some false)=some r:=by rw[if_neg (show ¬ (false=true) by decide)] at H;exact H
        clear H
        have H:=H1
        clear H1
        obtain rfl:=Option.some.inj H
        try go_wp2
        replace HB:=X.mk (L HB.out)
        have p101 : 0≤(x5_1:Int):=of_decide_eq_true (by assumption)
        have q101:x5_1 < (l0.length:Int):=of_decide_eq_true (by assumption)
        obtain⟨ad101,A101_1,c101_1,A101_2,c101_2,A101_3,c101_3,A101_4,c101_4,e101,hx101_0,hx101_1,hx101_2,hx101_3,hx101_4,hl101_1,hi101_1,hl101_2,hi101_2,hl101_3,hi101_3,hl101_4,hi101_4⟩:=at_T77 HR0.out x5_1 p101 q101
        have hw101_4:=hx101_4
        have hw101_3:=hx101_3
        have hw101_2:=hx101_2
        have hw101_1:=hx101_1
        have hw101_0:=hx101_0
        cases e101
        replace hx101_0:=(HB.out.cell (World.block_lt_of_cell? w _ hx101_0)).trans hx101_0
        replace hx101_1:=(HB.out.cell (World.block_lt_of_cell? w _ hx101_1)).trans hx101_1
        replace hx101_2:=(HB.out.cell (World.block_lt_of_cell? w _ hx101_2)).trans hx101_2
        replace hx101_3:=(HB.out.cell (World.block_lt_of_cell? w _ hx101_3)).trans hx101_3
        replace hx101_4:=(HB.out.cell (World.block_lt_of_cell? w _ hx101_4)).trans hx101_4
        have HR101_1:=X.mk hi101_1
        have HC101_1:=X.mk hl101_1
        clear hi101_1 hl101_1
        have HR101_2:=X.mk hi101_2
        have HC101_2:=X.mk hl101_2
        clear hi101_2 hl101_2
        have HR101_3:=X.mk hi101_3
        have HC101_3:=X.mk hl101_3
        clear hi101_3 hl101_3
        have HR101_4:=X.mk hi101_4
        have HC101_4:=X.mk hl101_4
        clear hi101_4 hl101_4
        replace p101:=eq_true p101
        replace q101:=eq_true q101
        have p102 : 0≤(x5_1:Int):=of_decide_eq_true (by assumption)
        have q102:x5_1 < (l1.length:Int):=of_decide_eq_true (by assumption)
        obtain⟨ad102,A102_1,c102_1,A102_2,c102_2,A102_3,c102_3,A102_4,c102_4,e102,hx102_0,hx102_1,hx102_2,hx102_3,hx102_4,hl102_1,hi102_1,hl102_2,hi102_2,hl102_3,hi102_3,hl102_4,hi102_4⟩:=at_T77 HR1.out x5_1 p102 q102
        have hw102_4:=hx102_4
        have hw102_3:=hx102_3
        have hw102_2:=hx102_2
        have hw102_1:=hx102_1
        have hw102_0:=hx102_0
        cases e102
        replace hx102_0:=(HB.out.cell (World.block_lt_of_cell? w _ hx102_0)).trans hx102_0
        replace hx102_1:=(HB.out.cell (World.block_lt_of_cell? w _ hx102_1)).trans hx102_1
        replace hx102_2:=(HB.out.cell (World.block_lt_of_cell? w _ hx102_2)).trans hx102_2
        replace hx102_3:=(HB.out.cell (World.block_lt_of_cell? w _ hx102_3)).trans hx102_3
        replace hx102_4:=(HB.out.cell (World.block_lt_of_cell? w _ hx102_4)).trans hx102_4
        have HR102_1:=X.mk hi102_1
        have HC102_1:=X.mk hl102_1
        clear hi102_1 hl102_1
        have HR102_2:=X.mk hi102_2
        have HC102_2:=X.mk hl102_2
        clear hi102_2 hl102_2
        have HR102_3:=X.mk hi102_3
        have HC102_3:=X.mk hl102_3
        clear hi102_3 hl102_3
        have HR102_4:=X.mk hi102_4
        have HC102_4:=X.mk hl102_4
        clear hi102_4 hl102_4
        replace p102:=eq_true p102
        replace q102:=eq_true q102
        refine start_ (n:=10) (S:=fun w'=>w'.cell? (ad101.add ((x5_1).toNat * 5))=some (.string ((kw l0 x5_1).f0))∧w'.cell? ⟨(ad101.add ((x5_1).toNat * 5)).block,(ad101.add ((x5_1).toNat * 5)).off + 1,none⟩ = some (.slice A101_1 ((kw l0 x5_1).f1).length c101_1)∧w'.cell? ⟨(ad101.add ((x5_1).toNat * 5)).block,(ad101.add ((x5_1).toNat * 5)).off + 2,none⟩ = some (.slice A101_2 ((kw l0 x5_1).f2).length c101_2)∧w'.cell? ⟨(ad101.add ((x5_1).toNat * 5)).block,(ad101.add ((x5_1).toNat * 5)).off + 3,none⟩ = some (.slice A101_3 ((kw l0 x5_1).f3).length c101_3)∧w'.cell? ⟨(ad101.add ((x5_1).toNat * 5)).block,(ad101.add ((x5_1).toNat * 5)).off + 4,none⟩ = some (.slice A101_4 ((kw l0 x5_1).f4).length c101_4)∧w'.cell? (ad102.add ((x5_1).toNat * 5))=some (.string ((kw l1 x5_1).f0))∧w'.cell? ⟨(ad102.add ((x5_1).toNat * 5)).block,(ad102.add ((x5_1).toNat * 5)).off + 1,none⟩ = some (.slice A102_1 ((kw l1 x5_1).f1).length c102_1)∧w'.cell? ⟨(ad102.add ((x5_1).toNat * 5)).block,(ad102.add ((x5_1).toNat * 5)).off + 2,none⟩ = some (.slice A102_2 ((kw l1 x5_1).f2).length c102_2)∧w'.cell? ⟨(ad102.add ((x5_1).toNat * 5)).block,(ad102.add ((x5_1).toNat * 5)).off + 3,none⟩ = some (.slice A102_3 ((kw l1 x5_1).f3).length c102_3)∧w'.cell? ⟨(ad102.add ((x5_1).toNat * 5)).block,(ad102.add ((x5_1).toNat * 5)).off + 4,none⟩ = some (.slice A102_4 ((kw l1 x5_1).f4).length c102_4)) (ds:=[]) #[Y,Y,Y,Y,Y,Y,Y,Y,Y,Y] (by kernel_rfl) rfl rfl ⟨((HB.out.cell (World.block_lt_of_cell? w _ hw101_0)).trans hw101_0),((HB.out.cell (World.block_lt_of_cell? w _ hw101_1)).trans hw101_1),((HB.out.cell (World.block_lt_of_cell? w _ hw101_2)).trans hw101_2),((HB.out.cell (World.block_lt_of_cell? w _ hw101_3)).trans hw101_3),((HB.out.cell (World.block_lt_of_cell? w _ hw101_4)).trans hw101_4),((HB.out.cell (World.block_lt_of_cell? w _ hw102_0)).trans hw102_0),((HB.out.cell (World.block_lt_of_cell? w _ hw102_1)).trans hw102_1),((HB.out.cell (World.block_lt_of_cell? w _ hw102_2)).trans hw102_2),((HB.out.cell (World.block_lt_of_cell? w _ hw102_3)).trans hw102_3),((HB.out.cell (World.block_lt_of_cell? w _ hw102_4)).trans hw102_4)⟩ (fun hHeld=>?_);refine with_tabW qzq.tab6 qzq.bits6 (fun HT_ HW_=>?_)
        generalize wr.drew=w11 at HB HR101_1 HR101_2 HR101_3 HR101_4 HR102_1 HR102_2 HR102_3 HR102_4 hx101_0 hx101_1 hx101_2 hx101_3 hx101_4 hx102_0 hx102_1 hx102_2 hx102_3 hx102_4 hHeld ⊢
        refine pure_ (i:=0) (N:=some 17) (v:=?_) (a':=?_) #[Z,Y,Y,Y,Y,Y,Y,Y,Y,Y] rfl rfl (any_of HT_.out (by kernel_rfl)) (fun _ _ _ h=>h) (Or.inl ⟨by rfl,?_⟩) ?_ ?_
        rotate_left
        ·intro w'
         go_simp
         with_reducible rfl
        rotate_left
        ·simp only[Act.put,jq5,jq6,jq7,i64_w,i32_w]
         rfl
        refine pure_ (i:=1) (N:=some 18) (v:=?_) (a':=?_) #[Z,Z,Y,Y,Y,Y,Y,Y,Y,Y] rfl rfl (any_of HT_.out (by kernel_rfl)) (fun _ _ _ h=>h) (Or.inl ⟨by rfl,?_⟩) ?_ ?_
        rotate_left
        ·intro w'
         go_simp
         with_reducible rfl
        rotate_left
        ·simp only[Act.put,jq5,jq6,jq7,i64_w,i32_w]
         rfl
        refine pure_ (i:=2) (N:=some 19) (v:=?_) (a':=?_) #[Z,Z,Z,Y,Y,Y,Y,Y,Y,Y] rfl rfl (any_of HT_.out (by kernel_rfl)) (fun _ _ _ h=>h) (Or.inl ⟨by rfl,?_⟩) ?_ ?_
        rotate_left
        ·intro w'
         go_simp
         with_reducible rfl
        rotate_left
        ·simp only[Act.put,jq5,jq6,jq7,i64_w,i32_w]
         rfl
        refine pure_ (i:=4) (N:=some 21) (v:=?_) (a':=?_) #[Z,Z,Z,Y,Z,Y,Y,Y,Y,Y] rfl rfl (any_of HT_.out (by kernel_rfl)) (fun _ _ _ h=>h) (Or.inl ⟨by rfl,?_⟩) ?_ ?_
        rotate_left
        ·intro w'
         go_simp
         with_reducible rfl
        rotate_left
        ·simp only[Act.put,jq5,jq6,jq7,i64_w,i32_w]
         rfl
        refine pure_ (i:=5) (N:=some 22) (v:=?_) (a':=?_) #[Z,Z,Z,Y,Z,Z,Y,Y,Y,Y] rfl rfl (any_of HT_.out (by kernel_rfl)) (fun _ _ _ h=>h) (Or.inl ⟨by rfl,?_⟩) ?_ ?_
        rotate_left
        ·intro w'
         go_simp
         with_reducible rfl
        rotate_left
        ·simp only[Act.put,jq5,jq6,jq7,i64_w,i32_w]
         rfl
        refine pure_ (i:=6) (N:=some 23) (v:=?_) (a':=?_) #[Z,Z,Z,Y,Z,Z,Z,Y,Y,Y] rfl rfl (any_of HT_.out (by kernel_rfl)) (fun _ _ _ h=>h) (Or.inl ⟨by rfl,?_⟩) ?_ ?_
        rotate_left
        ·intro w'
         go_simp
         with_reducible rfl
        rotate_left
        ·simp only[Act.put,jq5,jq6,jq7,i64_w,i32_w]
         rfl
        refine take_ (i:=3) (N:=some 20) (v:=?_) (a':=?_) #[Z,Z,Z,Z,Z,Z,Z,Y,Y,Y] rfl rfl (take_ofW HT_.out HW_.out (by kernel_rfl)) (fun _ _ _ h=>h) (Or.inl ⟨by rfl,?_⟩) hHeld ?_ ?_
        rotate_left
        ·rintro w' ⟨s0,s1,s2,s3,s4,s5,s6,s7,s8,s9⟩
         go_simp
         with_reducible rfl
        rotate_left
        ·simp only[Act.put,jq5,jq6,jq7,i64_w,i32_w]
         rfl
        refine take_ (i:=7) (N:=some 24) (v:=?_) (a':=?_) #[Z,Z,Z,Z,Z,Z,Z,Z,Y,Y] rfl rfl (take_ofW HT_.out HW_.out (by kernel_rfl)) (fun _ _ _ h=>h) (Or.inl ⟨by rfl,?_⟩) hHeld ?_ ?_
        rotate_left
        ·rintro w' ⟨s0,s1,s2,s3,s4,s5,s6,s7,s8,s9⟩
         go_simp
         with_reducible rfl
        rotate_left
        ·simp only[Act.put,jq5,jq6,jq7,i64_w,i32_w]
         rfl
        refine one_ (i:=8) (N:=some 25) #[Z,Z,Z,Z,Z,Z,Z,Z,Z,Y] rfl rfl (one_of HT_.out (by kernel_rfl)) (by decide) (fun K hK=>?_)
        refine goes_ Try.func80 (by kernel_rfl) rfl #[.agg #[.string ((kw l0 x5_1).f0),.slice A101_1 ((kw l0 x5_1).f1).length c101_1,.slice A101_2 ((kw l0 x5_1).f2).length c101_2,.slice A101_3 ((kw l0 x5_1).f3).length c101_3,.slice A101_4 ((kw l0 x5_1).f4).length c101_4],.agg #[.string ((kw l1 x5_1).f0),.slice A102_1 ((kw l1 x5_1).f1).length c102_1,.slice A102_2 ((kw l1 x5_1).f2).length c102_2,.slice A102_3 ((kw l1 x5_1).f3).length c102_3,.slice A102_4 ((kw l1 x5_1).f4).length c102_4]] (by rfl) rfl rfl (by(try simp only[jq0,jq1,jq2]);first|done|rfl|(simp only[jq3,jq4];rfl)) ?_
        with_reducible refine(qqx.calls k1 ((kw l0 x5_1).f0) _ _ ((kw l0 x5_1).f1) _ _ ((kw l0 x5_1).f2) _ _ ((kw l0 x5_1).f3) _ _ ((kw l0 x5_1).f4) ((kw l1 x5_1).f0) _ _ ((kw l1 x5_1).f1) _ _ ((kw l1 x5_1).f2) _ _ ((kw l1 x5_1).f3) _ _ ((kw l1 x5_1).f4) false _ ?side1 ?side2 ?side3 ?side4 ?side5 ?side6 ?side7 ?side8 ?side9 ?side10 ?side11 ?side12 ?side13 ?side14 ?side15 ?side16 A7.out).mono ?_
        (case side1=>solve_by_elim only[(Kd.C_below HR101_1.out HB.out),Kd.C_alloc,Kd.C_drewN,Kd.C_drew])
        (case side2=>exact HC101_1.out)
        (case side3=>solve_by_elim only[(Kd.C_below HR101_2.out HB.out),Kd.C_alloc,Kd.C_drewN,Kd.C_drew])
        (case side4=>exact HC101_2.out)
        (case side5=>solve_by_elim only[(Kd.C_below HR101_3.out HB.out),Kd.C_alloc,Kd.C_drewN,Kd.C_drew])
        (case side6=>exact HC101_3.out)
        (case side7=>solve_by_elim only[(Kd.C_below HR101_4.out HB.out),Kd.C_alloc,Kd.C_drewN,Kd.C_drew])
        (case side8=>exact HC101_4.out)
        (case side9=>solve_by_elim only[(Kd.C_below HR102_1.out HB.out),Kd.C_alloc,Kd.C_drewN,Kd.C_drew])
        (case side10=>exact HC102_1.out)
        (case side11=>solve_by_elim only[(Kd.C_below HR102_2.out HB.out),Kd.C_alloc,Kd.C_drewN,Kd.C_drew])
        (case side12=>exact HC102_2.out)
        (case side13=>solve_by_elim only[(Kd.C_below HR102_3.out HB.out),Kd.C_alloc,Kd.C_drewN,Kd.C_drew])
        (case side14=>exact HC102_3.out)
        (case side15=>solve_by_elim only[(Kd.C_below HR102_4.out HB.out),Kd.C_alloc,Kd.C_drewN,Kd.C_drew])
        (case side16=>exact HC102_4.out)
        rintro e w12 ⟨rfl,hb⟩
        refine⟨_,rfl,?_⟩
        replace HB:=X.mk (qw (by solve_by_elim only[HB.out,O,U,L]) hb)
        (try clear hb)
        (try clear hb2)
        (try clear hk)
        (try clear hi)
        refine hK.out _ _ ⟨((HB.out.cell (World.block_lt_of_cell? w _ hw101_0)).trans hw101_0),((HB.out.cell (World.block_lt_of_cell? w _ hw101_1)).trans hw101_1),((HB.out.cell (World.block_lt_of_cell? w _ hw101_2)).trans hw101_2),((HB.out.cell (World.block_lt_of_cell? w _ hw101_3)).trans hw101_3),((HB.out.cell (World.block_lt_of_cell? w _ hw101_4)).trans hw101_4),((HB.out.cell (World.block_lt_of_cell? w _ hw102_0)).trans hw102_0),((HB.out.cell (World.block_lt_of_cell? w _ hw102_1)).trans hw102_1),((HB.out.cell (World.block_lt_of_cell? w _ hw102_2)).trans hw102_2),((HB.out.cell (World.block_lt_of_cell? w _ hw102_3)).trans hw102_3),((HB.out.cell (World.block_lt_of_cell? w _ hw102_4)).trans hw102_4)⟩ (fun hHeld=>?_)
        clear hK K
        refine norm_ (a':=?_) ?_ ?_
        rotate_left
        ·show Act.put _ (some 25) _=_
         simp only[Act.put,jq5,jq6,jq7,i64_w,i32_w]
         rfl
        refine pure_ (i:=9) (N:=some 26) (v:=?_) (a':=?_) #[Z,Z,Z,Z,Z,Z,Z,Z,Z,Z] rfl rfl (any_of HT_.out (by kernel_rfl)) (fun _ _ _ h=>h) (Or.inl ⟨by rfl,?_⟩) ?_ ?_
        rotate_left
        ·intro w'
         go_simp
         with_reducible rfl
        rotate_left
        ·simp only[Act.put,jq5,jq6,jq7,i64_w,i32_w]
         rfl
        refine done_ (done_of HT_.out (by kernel_rfl)) ?_
        try go_wp2
        go_ret
        exact⟨by first|rfl|(simp[*,zv,zk] <;> rfl),by repeat(first|(with_reducible first|exact HB.out|apply O|apply U|apply L)|exact HB.out)⟩
      ·rw[if_neg c6] at H
       exact absurd H (by simp)
     ·rw[if_neg c5] at H
      exact absurd H (by simp)
    ·rw[if_neg c4] at H
     have c4b0:decide (x5_1 < (l0.length:Int))=false:=decide_eq_false c4
     clear c4
     obtain rfl:=Option.some.inj H
     go_wp2
     go_ret
     exact⟨by first|rfl|(simp[*,zv,zk] <;> rfl),by repeat(first|(with_reducible first|exact HB.out|apply O|apply U|apply L)|exact HB.out)⟩
 ·rw[if_neg c3] at H
  have c3b0:((l0.length:Int) == (l1.length:Int))=false:=beq_eq_false_iff_ne.mpr c3
  have c3b1:((l0.length:Int) != (l1.length:Int))=true:=bne_iff_ne.mpr c3
  have c3b2:(l0.length == l1.length)=false:=by first|simpa using c3|(simp at c3 ⊢;omega)
  obtain rfl:=Option.some.inj H
  go_enter Try.func53,Try.ntmps53
  go_wp2
  go_ret
  exact⟨by first|rfl|(simp[*,zv,zk] <;> rfl),by repeat(first|(with_reducible first|exact HB.out|apply O|apply U|apply L)|exact HB.out)⟩
end Go.Proofs.Ytakocdkcfjkmdaa.Pr
