/- Printed texts, walks and plain facts that the law FnHeads leans on, joined. -/
import Derived.Test.YtipdkendfcopiaaFullFnHeadsE
import Derived.WalkSpells
set_option maxHeartbeats 8000000
set_option maxRecDepth 100000
open List renaming map_toArray → jq0, map_cons → jq1, map_nil → jq2, length_drop → jq3, length_take → jq4, setIfInBounds_toArray → jq5, set_cons_zero → jq6, set_cons_succ → jq7
open Option renaming bind_eq_some_iff → jq8
open Bool renaming eq_false_iff → jq9, true → Z, false → Y
namespace Go.Proofs.Ytipdkendfcopiaa.Pr
open Go.RowKit Go.Proofs.YtipdkendfcopiaaW.PrintWords Go.Proofs.YtipdkendfcopiaaW.PrintLast Go.Proofs.YtipdkendfcopiaaW.PrintMore
attribute [local go_sem] max2_int min2_int max_two min_two max_three min_three max_four min_four
set_option linter.unusedVariables false
set_option linter.unusedSimpArgs false
def qjx.f (k:Nat) (l0:List Int):Option (Int × Int × List Int × Int × Int):=(newCur.f l0 0 0).bind fun bt102=>((qwq.f bt102.1 bt102.2.1 bt102.2.2 60000).bind fun bt106=>((qvq.f k bt102.1 bt106.2.1 bt106.2.2 8).bind fun bt109=>((qkv.f k (wrap64 (1 + bt106.1)) bt109.1).bind fun bt114=>((qwq.f bt102.1 bt109.2.1 bt109.2.2 8).bind fun bt121=>(if bt121.1=0 then((qkj.f k (wrap64 (1 + bt106.1))).bind fun t124=>(some (t124,wrap64 (bt114.1 + 1),bt114.2.1,bt114.2.2.1,bt114.2.2.2))) else(if bt121.1=1 then(if (bt114.2.1.length:Int) > 0 then(if 0 < (bt114.2.1.length:Int) then((qkj.f k (wrap64 (1 + bt106.1))).bind fun t127=>(some (t127,bt114.1,(bt114.2.1.set (0:Int).toNat (((rd bt114.2.1 0) + 1) % 256)),bt114.2.2.1,bt114.2.2.2))) else(none)) else((qkj.f k (wrap64 (1 + bt106.1))).bind fun t128=>(some (t128,bt114.1,bt114.2.1,bt114.2.2.1,bt114.2.2.2)))) else(if bt121.1=2 then((qkj.f k (wrap64 (1 + bt106.1))).bind fun t129=>(some (t129,bt114.1,([]:List Int),bt114.2.2.1,bt114.2.2.2))) else(if bt121.1=3 then((qkj.f k (wrap64 ((wrap64 (1 + bt106.1)) + 1))).bind fun t130=>(some (t130,bt114.1,bt114.2.1,bt114.2.2.1,bt114.2.2.2))) else((qkj.f k (wrap64 (1 + bt106.1))).bind fun t131=>(some (t131,bt114.1,bt114.2.1,bt114.2.2.1,bt114.2.2.2)))))))))))
theorem qjx.calls (k:Nat) (A0:Option Addr) (c0:Nat) (l0:List Int) (r1:Int) (r2:Int) (r3:List Int) (r4:Int) (r5:Int) (w:World) (hr0:Kd.C (Kd.int .u8) w A0 l0.length l0) (hc0:l0.length≤c0) (h:qjx.f k l0=some (r1,r2,r3,r4,r5)) :
  Calls Try.prog 65 #[.slice A0 l0.length c0] w fun e w'=>∃ v2_:Value,e=.returned (.tuple #[.int .i64 r1,.agg #[.int .i64 r2,v2_,.int .i64 r4,.int .i64 r5]])∧Kd.R (Kd.int .u8) 5 w' w.heap.size (fun _=>True) v2_ r3∧Below w.heap.size w w':=by
 have hu61:=Try.underlying61
 have hu107:=Try.underlying107
 have HR0:=U.mk hr0
 have HC0:=U.mk hc0
 clear hr0 hc0
 have HB:=U.mk (Below.refl w.heap.size w)
 unfold qjx.f at h
 have H:=h
 clear h
 replace H:=jq8.mp H
 obtain⟨⟨t102,t103,t104⟩,A20,H⟩:=H
 try dsimp only at H
 have A2:=U.mk A20
 clear A20
 replace H:=jq8.mp H
 obtain⟨⟨t106,t107,t108⟩,A30,H⟩:=H
 try dsimp only at H
 have A3:=U.mk A30
 clear A30
 replace H:=jq8.mp H
 obtain⟨⟨t109,t112,t113⟩,A40,H⟩:=H
 try dsimp only at H
 have A4:=U.mk A40
 clear A40
 replace H:=jq8.mp H
 obtain⟨⟨t114,t115,t118,t119⟩,A50,H⟩:=H
 try dsimp only at H
 have A5:=U.mk A50
 clear A50
 replace H:=jq8.mp H
 obtain⟨⟨t121,t122,t123⟩,A60,H⟩:=H
 try dsimp only at H
 have A6:=U.mk A60
 clear A60
 by_cases c7:t121=0
 ·rw[if_pos c7] at H
  have c7b0:(t121 == 0)=true:=beq_iff_eq.mpr c7
  have c7b1:(t121 != 0)=false:=bne_eq_false_iff_eq.mpr c7
  clear c7
  replace H:=jq8.mp H
  obtain⟨t124,A80,H⟩:=H
  try dsimp only at H
  have A8:=U.mk A80
  clear A80
  simp only[Option.some.injEq,Prod.mk.injEq] at H
  obtain⟨rfl,rfl,rfl,rfl,rfl⟩:=H
  go_enter Try.func65,Try.ntmps65
  try go_wp2_with (first|((with_reducible refine gate_dst (N:=3) rfl ?_);refine box_event ?hg (N:=3) ?hd (cs:=#[.int .i64 0,.slice none 0 0,.int .i64 0,.int .i64 0]) (t:=61) ?hr ?_;(case hd=>rfl);(case hg=>rfl);(case hr=>first|(go_simp;done)|(go_simp;rfl));intro gb101 hg w9 hbox hb;have BK101:=U.mk (hbox);have GW101:=U.mk ((by rw[hg];exact(zj (by solve_by_elim only[HB.out,G,J,qq])):w.heap.size≤gb101));have GE101:=U.mk ((by rw[hg];exact(zj (by solve_by_elim only[HB.out,G,J,qq])):w.heap.size≤gb101));replace HB:=U.mk (zz (by solve_by_elim only[HB.out,G,J,qq]) hb);clear hb hbox hg)|((with_reducible refine gate_box (t:=107) rfl ?_);refine boxGoesL_ (some 9) rfl rfl (t:=107) (cs:=#[.slice A0 l0.length c0,.int .i64 0,.int .u64 0]) (by first|(go_simp;done)|(go_simp;rfl)) ?_;(with_reducible refine(newCur.calls _ _ l0 0 0 t102 t103 t104 w _ ?side1 ?side2 ?side3 A2.out).mono ?_);(case side1=>repeat(first|(with_reducible first|exact HB.out|apply G|apply J|apply qq|refine qk ?_ GE101.out)|exact HB.out));(case side2=>exact HR0.out);(case side3=>exact HC0.out);rintro e w10 ⟨g105,rfl,hi,hb,hb2⟩;refine⟨_,rfl,?_⟩;replace HB:=U.mk (hb);have HI105:=U.mk (hi);have NB105_101:=U.mk (wj.ne_blk hi (vx (g:=gb101) (o:=.cells #[.int .i64 0,.slice none 0 0,.int .i64 0,.int .i64 0] 61 (0,0)) (by solve_by_elim only[BK101.out,qw,qx,qv]) hb2) (by decide));have NB101_105:=U.mk (Ne.symm (wj.ne_blk hi (vx (g:=gb101) (o:=.cells #[.int .i64 0,.slice none 0 0,.int .i64 0,.int .i64 0] 61 (0,0)) (by solve_by_elim only[BK101.out,qw,qx,qv]) hb2) (by decide)));replace BK101:=U.mk (vx (g:=gb101) (o:=.cells #[.int .i64 0,.slice none 0 0,.int .i64 0,.int .i64 0] 61 (0,0)) (by solve_by_elim only[BK101.out,qw,qx,qv]) hb2);(try clear hb hb2 hi))|((with_reducible refine jw (f:=109) rfl ?_);refine goesL_ (some 11) rfl rfl Try.func109 (by kernel_rfl) rfl #[.pointer (some ⟨g105,0,none⟩),.int .i64 60000] rfl (by(try simp only[jq0,jq1,jq2]);first|done|rfl|(simp only[jq3,jq4];rfl)) ?_;(with_reducible refine(qwq.calls g105 t102 t103 t104 60000 t106 t107 t108 w _ ?side1 ?side2 A3.out).mono ?_);(case side1=>repeat(first|(with_reducible first|exact HI105.out|apply wj.alloc|apply wj.drewN|apply wj.drew|apply wj.set_1|apply wj.set_2|refine wj.far ?_ NB105_101.out _)|exact HI105.out));(case side2=>repeat(first|(with_reducible first|exact HB.out|apply G|apply J|apply qq|refine qk ?_ (wj.ge HI105.out)|refine qk ?_ GE101.out)|exact HB.out));rintro e w11 ⟨rfl,hi,hb,hk⟩;refine⟨_,rfl,?_⟩;replace BK101:=U.mk (zq.blk hk (g':=gb101) (o:=.cells #[.int .i64 0,.slice none 0 0,.int .i64 0,.int .i64 0] 61 (0,0)) (by solve_by_elim only[BK101.out,qw,qx,qv]) NB101_105.out (by simp));replace HB:=U.mk (hb);replace HI105:=U.mk (hi);(try clear hb hk hi))|((with_reducible refine jw (f:=107) rfl ?_);refine goesL_ (some 15) rfl rfl Try.func107 (by kernel_rfl) rfl #[.pointer (some ⟨g105,0,none⟩),.int .i64 8] rfl (by(try simp only[jq0,jq1,jq2]);first|done|rfl|(simp only[jq3,jq4];rfl)) ?_;(with_reducible refine(qvq.calls k g105 t102 t107 t108 8 t109 t112 t113 w _ ?side1 ?side2 A4.out).mono ?_);(case side1=>repeat(first|(with_reducible first|exact HI105.out|apply wj.alloc|apply wj.drewN|apply wj.drew|apply wj.set_1|apply wj.set_2|refine wj.far ?_ NB105_101.out _)|exact HI105.out));(case side2=>repeat(first|(with_reducible first|exact HB.out|apply G|apply J|apply qq|refine qk ?_ (wj.ge HI105.out)|refine qk ?_ GE101.out)|exact HB.out));rintro e w12 ⟨v110,rfl,ho0,hi,hb,hk⟩;refine⟨_,rfl,?_⟩;have HO111:=U.mk (Kd.N_lower (Kd.N_mono (ok':=fun k_=>k_≠gb101∧k_≠g105) ho0 (fun k_ hk_=>⟨(Kd.freshB (g:=gb101) (o:=.cells #[.int .i64 0,.slice none 0 0,.int .i64 0,.int .i64 0] 61 (0,0)) (by solve_by_elim only[BK101.out,qw,qx,qv]) k_ hk_),(wj.fresh (by solve_by_elim (maxDepth:=20) only[HI105.out,wj.alloc,wj.drewN,wj.drew,wj.set_1,wj.set_2,wj.far,NB105_101.out]) k_ hk_)⟩)) (zj (by solve_by_elim (maxDepth:=20) only[HB.out,G,J,qq,qk,(wj.ge HI105.out),qk,GE101.out])));replace BK101:=U.mk (zq.blk hk (g':=gb101) (o:=.cells #[.int .i64 0,.slice none 0 0,.int .i64 0,.int .i64 0] 61 (0,0)) (by solve_by_elim only[BK101.out,qw,qx,qv]) NB101_105.out (by simp));replace HB:=U.mk (hb);replace HI105:=U.mk (hi);(try clear hb hk hi ho0);obtain⟨Ao13,co13,eo13⟩:=Kd.N_slice HO111.out;subst eo13)|((with_reducible refine jw (f:=58) rfl ?_);refine goesL_ (some 16) rfl rfl Try.func58 (by kernel_rfl) rfl #[.int .i64 (wrap64 (1 + t106)),.slice Ao13 t109.length co13] rfl (by(try simp only[jq0,jq1,jq2]);first|done|rfl|(simp only[jq3,jq4];rfl)) ?_;(with_reducible refine(qkv.calls k (wrap64 (1 + t106)) _ _ t109 t114 t115 t118 t119 _ ?side1 ?side2 A5.out).mono ?_);(case side1=>solve_by_elim only[(Kd.N_reads' HO111.out).2.2,Kd.C_alloc,Kd.C_drewN,Kd.C_drew]);(case side2=>exact(Kd.N_reads' HO111.out).2.1);rintro e w14 ⟨v116,rfl,ho0,hb⟩;refine⟨_,rfl,?_⟩;replace HO111:=U.mk (Kd.N_elder' (by solve_by_elim only[HO111.out,Kd.kv,Kd.kk,Kd.kw]) (Kd.R_base ho0) hb);have HO117:=U.mk (Kd.R_lower ho0 (zj (by solve_by_elim (maxDepth:=20) only[HB.out,G,J,qq,qk,(wj.ge HI105.out),qk,GE101.out])));replace BK101:=U.mk (vx (g:=gb101) (o:=.cells #[.int .i64 0,.slice none 0 0,.int .i64 0,.int .i64 0] 61 (0,0)) (by solve_by_elim only[BK101.out,qw,qx,qv]) hb);replace HB:=U.mk (zz (by solve_by_elim (maxDepth:=20) only[HB.out,G,J,qq,qk,(wj.ge HI105.out),qk,GE101.out]) hb);replace HI105:=U.mk (wj.below (by solve_by_elim (maxDepth:=20) only[HI105.out,wj.alloc,wj.drewN,wj.drew,wj.set_1,wj.set_2,wj.far,NB105_101.out]) hb);(try clear hb ho0))|((with_reducible refine gate_dst (N:=6) rfl ?_);refine box_event ?hg (N:=6) ?hd (cs:=#[.int .i64 0,.slice none 0 0,.int .i64 0,.int .i64 0]) (t:=61) ?hr ?_;(case hd=>rfl);(case hg=>rfl);(case hr=>first|(go_simp;done)|(go_simp;rfl));intro gb120 hg w15 hbox hb;replace HO111:=U.mk (Kd.N_below (Kd.N_elderB (by solve_by_elim only[HO111.out,Kd.kv,Kd.kk,Kd.kw]) gb120 (Nat.le_of_eq hg.symm)) hb);replace HO117:=U.mk (Kd.R_below (by solve_by_elim only[HO117.out,Kd.zv,Kd.zk,Kd.zw]) hb);have BK120:=U.mk (hbox);have GW120:=U.mk ((by rw[hg];exact(zj (by solve_by_elim (maxDepth:=20) only[HB.out,G,J,qq,qk,(wj.ge HI105.out),qk,GE101.out])):w.heap.size≤gb120));have GE120:=U.mk ((by rw[hg];exact(zj (by solve_by_elim (maxDepth:=20) only[HB.out,G,J,qq,qk,(wj.ge HI105.out),qk,GE101.out])):w.heap.size≤gb120));replace HB:=U.mk (zz (by solve_by_elim (maxDepth:=20) only[HB.out,G,J,qq,qk,(wj.ge HI105.out),qk,GE101.out]) hb);have NB101_120:=U.mk ((by rw[hg];exact Nat.ne_of_lt (blk_lt (g:=gb101) (o:=.cells #[.int .i64 0,.slice none 0 0,.int .i64 0,.int .i64 0] 61 (0,0)) (by solve_by_elim only[BK101.out,qw,qx,qv])):gb101≠gb120));have NB120_101:=U.mk ((by rw[hg];exact Nat.ne_of_gt (blk_lt (g:=gb101) (o:=.cells #[.int .i64 0,.slice none 0 0,.int .i64 0,.int .i64 0] 61 (0,0)) (by solve_by_elim only[BK101.out,qw,qx,qv])):gb120≠gb101));replace BK101:=U.mk (vx (g:=gb101) (o:=.cells #[.int .i64 0,.slice none 0 0,.int .i64 0,.int .i64 0] 61 (0,0)) (by solve_by_elim only[BK101.out,qw,qx,qv]) hb);have NB105_120:=U.mk ((by rw[hg];exact Nat.ne_of_lt (wj.lt (show wj w _ g105 t102 t112 t113 from by repeat(first|(with_reducible first|exact HI105.out|apply wj.alloc|apply wj.drewN|apply wj.drew|apply wj.set_1|apply wj.set_2|refine wj.far ?_ NB105_101.out _)|exact HI105.out))):g105≠gb120));have NB120_105:=U.mk ((by rw[hg];exact Nat.ne_of_gt (wj.lt (show wj w _ g105 t102 t112 t113 from by repeat(first|(with_reducible first|exact HI105.out|apply wj.alloc|apply wj.drewN|apply wj.drew|apply wj.set_1|apply wj.set_2|refine wj.far ?_ NB105_101.out _)|exact HI105.out))):gb120≠g105));replace HI105:=U.mk (wj.below (by solve_by_elim (maxDepth:=20) only[HI105.out,wj.alloc,wj.drewN,wj.drew,wj.set_1,wj.set_2,wj.far,NB105_101.out]) hb);clear hb hbox hg;have hnb16:=NB120_101.out;have hnc16:=NB101_120.out;have hnb17:=NB120_105.out;have hnc17:=NB105_120.out;have hcz18_0:w15.cell? ⟨gb120,0,none⟩ = some (.int .i64 0):=(qj BK120.out 0).trans rfl;have hcz18_1:w15.cell? ⟨gb120,1,none⟩ = some (.slice none 0 0):=(qj BK120.out 1).trans rfl;have hcz18_2:w15.cell? ⟨gb120,2,none⟩ = some (.int .i64 0):=(qj BK120.out 2).trans rfl;have hcz18_3:w15.cell? ⟨gb120,3,none⟩ = some (.int .i64 0):=(qj BK120.out 3).trans rfl;have hfz18_0:=qz BK120.out 0;have hfz18_1:=qz BK120.out 1;have hfz18_2:=qz BK120.out 2;have hfz18_3:=qz BK120.out 3;obtain⟨Ao19,co19,eo19⟩:=Kd.R_slice HO117.out;subst eo19)|((with_reducible refine jw (f:=109) rfl ?_);refine goesL_ (some 18) rfl rfl Try.func109 (by kernel_rfl) rfl #[.pointer (some ⟨g105,0,none⟩),.int .i64 8] rfl (by(try simp only[jq0,jq1,jq2]);first|done|rfl|(simp only[jq3,jq4];rfl)) ?_;(with_reducible refine(qwq.calls g105 t102 t112 t113 8 t121 t122 t123 w _ ?side1 ?side2 A6.out).mono ?_);(case side1=>repeat(first|(with_reducible first|exact HI105.out|apply wj.alloc|apply wj.drewN|apply wj.drew|apply wj.set_1|apply wj.set_2|refine wj.far ?_ NB105_101.out _|refine wj.far ?_ NB105_120.out _)|exact HI105.out));(case side2=>repeat(first|(with_reducible first|exact HB.out|apply G|apply J|apply qq|refine qk ?_ (wj.ge HI105.out)|refine qk ?_ GE101.out|refine qk ?_ GE120.out)|exact HB.out));rintro e w20 ⟨rfl,hi,hb,hk⟩;refine⟨_,rfl,?_⟩;replace BK101:=U.mk (zq.blk hk (g':=gb101) (o:=.cells #[.int .i64 0,.slice none 0 0,.int .i64 0,.int .i64 0] 61 (0,0)) (by(with_reducible repeat(first|refine qw ?_ _|refine qx ?_|refine qv ?_ _));refine blk_far ?_ NB101_120.out _;(with_reducible repeat(first|refine qw ?_ _|refine qx ?_|refine qv ?_ _));refine blk_far ?_ NB101_120.out _;(with_reducible repeat(first|refine qw ?_ _|refine qx ?_|refine qv ?_ _));refine blk_far ?_ NB101_120.out _;(with_reducible repeat(first|refine qw ?_ _|refine qx ?_|refine qv ?_ _));refine blk_far ?_ NB101_120.out _;(with_reducible repeat(first|refine qw ?_ _|refine qx ?_|refine qv ?_ _));exact BK101.out) NB101_105.out (by simp));replace HO111:=U.mk (Kd.N_mono (Kd.N_keep (Kd.N_mono (ok:=fun k_=>(((k_≠gb101∧k_≠g105)∧some k_≠(.slice Ao19 t115.length co19:Value).ownBlock)∧k_≠gb120)) (by(with_reducible repeat(first|apply Kd.kv|apply Kd.kk|apply Kd.kw));exact(Kd.N_mono (Kd.N_far (p:=⟨gb120,3,none⟩) (Kd.N_far (p:=⟨gb120,2,none⟩) (Kd.N_far (p:=⟨gb120,1,none⟩) (Kd.N_far (p:=⟨gb120,0,none⟩) (Kd.N_mono HO111.out (fun k_ hk=>(⟨hk,hk.2⟩ : _∧k_≠gb120))) (fun _ hk=>hk.2) (.int .i64 t114)) (fun _ hk=>hk.2) (.slice Ao19 t115.length co19)) (fun _ hk=>hk.2) (.int .i64 t118)) (fun _ hk=>hk.2) (.int .i64 t119)) (fun _ h_=>h_.1))) (fun k_ hk_=>(⟨hk_,hk_.1.1.2⟩ : _∧k_≠g105))) hk (fun _ h=>h.2)) (fun _ h=>h.1));replace HO117:=U.mk (Kd.R_mono (Kd.R_keep (wj.apart (show wj w _ g105 t102 t112 t113 from by repeat(first|(with_reducible first|exact HI105.out|apply wj.alloc|apply wj.drewN|apply wj.drew|apply wj.set_1|apply wj.set_2|refine wj.far ?_ NB105_101.out _|refine wj.far ?_ NB105_120.out _)|exact HI105.out)) (by(with_reducible repeat(first|apply Kd.zv|apply Kd.zk|apply Kd.zw));exact(Kd.R_mono (Kd.R_far (p:=⟨gb120,3,none⟩) (Kd.R_far (p:=⟨gb120,2,none⟩) (Kd.R_far (p:=⟨gb120,1,none⟩) (Kd.R_far (p:=⟨gb120,0,none⟩) (Kd.R_types HO117.out BK120.out (by decide)) (fun _ hk=>hk.2) (.int .i64 t114)) (fun _ hk=>hk.2) (.slice Ao19 t115.length co19)) (fun _ hk=>hk.2) (.int .i64 t118)) (fun _ hk=>hk.2) (.int .i64 t119)) (fun _ h_=>h_.1))) (by decide)) hk (fun _ h=>h.2)) (fun _ h=>h.1));replace BK120:=U.mk (zq.blk hk (g':=gb120) (o:=.cells #[.int .i64 t114,.slice Ao19 t115.length co19,.int .i64 t118,.int .i64 t119] 61 (0,0)) (by(with_reducible repeat(first|refine qw ?_ _|refine qx ?_|refine qv ?_ _));refine blk_put (cs:=#[.int .i64 t114,.slice Ao19 t115.length co19,.int .i64 t118,.int .i64 0]) ?_ 3 _ rfl;(with_reducible repeat(first|refine qw ?_ _|refine qx ?_|refine qv ?_ _));refine blk_put (cs:=#[.int .i64 t114,.slice Ao19 t115.length co19,.int .i64 0,.int .i64 0]) ?_ 2 _ rfl;(with_reducible repeat(first|refine qw ?_ _|refine qx ?_|refine qv ?_ _));refine blk_put (cs:=#[.int .i64 t114,.slice none 0 0,.int .i64 0,.int .i64 0]) ?_ 1 _ rfl;(with_reducible repeat(first|refine qw ?_ _|refine qx ?_|refine qv ?_ _));refine blk_put (cs:=#[.int .i64 0,.slice none 0 0,.int .i64 0,.int .i64 0]) ?_ 0 _ rfl;(with_reducible repeat(first|refine qw ?_ _|refine qx ?_|refine qv ?_ _));exact BK120.out) NB120_105.out (by simp));replace HB:=U.mk (hb);replace HI105:=U.mk (hi);(try clear hb hk hi);have hcz21_0:w20.cell? ⟨gb120,0,none⟩ = some (.int .i64 t114):=(qj BK120.out 0).trans rfl;have hcz21_1:w20.cell? ⟨gb120,1,none⟩ = some (.slice Ao19 t115.length co19):=(qj BK120.out 1).trans rfl;have hcz21_2:w20.cell? ⟨gb120,2,none⟩ = some (.int .i64 t118):=(qj BK120.out 2).trans rfl;have hcz21_3:w20.cell? ⟨gb120,3,none⟩ = some (.int .i64 t119):=(qj BK120.out 3).trans rfl;have hfz21_0:=qz BK120.out 0;have hfz21_1:=qz BK120.out 1;have hfz21_2:=qz BK120.out 2;have hfz21_3:=qz BK120.out 3))
  have n0_:U (Kd.N k27 27 (w20.setCell ⟨gb120,0,none⟩ (.int .i64 (wrap64 (t114 + 1)))) w.heap.size (fun k_=>some k_≠(.slice Ao19 t115.length co19:Value).ownBlock∧k_≠gb101∧k_≠g105∧k_≠gb120) (.slice Ao13 t109.length co13) t109):=⟨by(with_reducible repeat(first|apply Kd.kv|apply Kd.kk|apply Kd.kw));exact Kd.N_mono (Kd.N_far (p:=⟨gb120,0,none⟩) (Kd.N_mono HO111.out (fun k_ hk=>(⟨hk,hk.2⟩ : _∧k_≠gb120))) (fun _ hk=>hk.2) (.int .i64 (wrap64 (t114 + 1)))) (fun _ hk=>⟨hk.1.1.2,⟨hk.1.1.1.1,⟨hk.1.1.1.2,hk.1.2⟩⟩⟩)⟩
  have n1_:U (Kd.R (Kd.int .u8) 5 (w20.setCell ⟨gb120,0,none⟩ (.int .i64 (wrap64 (t114 + 1)))) w.heap.size (fun _=>True) (.slice Ao19 t115.length co19) t115):=⟨by(with_reducible repeat(first|apply Kd.zv|apply Kd.zk|apply Kd.zw));exact Kd.R_mono (Kd.R_far (p:=⟨gb120,0,none⟩) (Kd.R_types HO117.out BK120.out (by decide)) (fun _ hk=>hk.2) (.int .i64 (wrap64 (t114 + 1)))) (fun _ hk=>trivial)⟩
  have n2_:U ((w20.setCell ⟨gb120,0,none⟩ (.int .i64 (wrap64 (t114 + 1)))).heap[gb101]? = some (.cells #[.int .i64 0,.slice none 0 0,.int .i64 0,.int .i64 0] 61 (0,0))):=⟨by(with_reducible repeat(first|refine qw ?_ _|refine qx ?_|refine qv ?_ _));refine blk_far ?_ NB101_120.out _;(with_reducible repeat(first|refine qw ?_ _|refine qx ?_|refine qv ?_ _));exact BK101.out⟩
  have n3_:U ((w20.setCell ⟨gb120,0,none⟩ (.int .i64 (wrap64 (t114 + 1)))).heap[gb120]? = some (.cells #[.int .i64 (wrap64 (t114 + 1)),.slice Ao19 t115.length co19,.int .i64 t118,.int .i64 t119] 61 (0,0))):=⟨by(with_reducible repeat(first|refine qw ?_ _|refine qx ?_|refine qv ?_ _));refine blk_put (cs:=#[.int .i64 t114,.slice Ao19 t115.length co19,.int .i64 t118,.int .i64 t119]) ?_ 0 _ rfl;(with_reducible repeat(first|refine qw ?_ _|refine qx ?_|refine qv ?_ _));exact BK120.out⟩
  have n4_:U (wj w (w20.setCell ⟨gb120,0,none⟩ (.int .i64 (wrap64 (t114 + 1)))) g105 t102 t122 t123):=⟨by repeat(first|(with_reducible first|exact HI105.out|apply wj.alloc|apply wj.drewN|apply wj.drew|apply wj.set_1|apply wj.set_2|refine wj.far ?_ NB105_101.out _|refine wj.far ?_ NB105_120.out _)|exact HI105.out)⟩
  have n5_:U (Below w.heap.size w (w20.setCell ⟨gb120,0,none⟩ (.int .i64 (wrap64 (t114 + 1))))):=⟨by repeat(first|(with_reducible first|exact HB.out|apply G|apply J|apply qq|refine qk ?_ (wj.ge HI105.out)|refine qk ?_ GE101.out|refine qk ?_ GE120.out)|exact HB.out)⟩
  (try clear HO111)
  (try clear HO117)
  (try clear BK101)
  (try clear BK120)
  (try clear HI105)
  (try clear HB)
  generalize (w20.setCell ⟨gb120,0,none⟩ (.int .i64 (wrap64 (t114 + 1))))=w22 at n0_ n1_ n2_ n3_ n4_ n5_ ⊢
  have HO111:=n0_
  have HO117:=n1_
  have BK101:=n2_
  have BK120:=n3_
  have HI105:=n4_
  have HB:=n5_
  clear n0_ n1_ n2_ n3_ n4_ n5_
  replace HO111:=U.mk (Kd.kw HO111.out)
  replace HO117:=U.mk (Kd.zw HO117.out)
  replace BK101:=U.mk (qx BK101.out)
  replace BK120:=U.mk (qx BK120.out)
  replace HI105:=U.mk (wj.drew HI105.out)
  replace HB:=U.mk (qq HB.out)
  refine start_ (n:=5) (S:=fun w'=>w'.cell? ⟨gb120,0,none⟩ = some (.int .i64 (wrap64 (t114 + 1)))∧w'.cell? ⟨gb120,1,none⟩ = some (.slice Ao19 t115.length co19)∧w'.cell? ⟨gb120,2,none⟩ = some (.int .i64 t118)∧w'.cell? ⟨gb120,3,none⟩ = some (.int .i64 t119)) (ds:=[]) #[Y,Y,Y,Y,Y] (by kernel_rfl) rfl rfl ⟨(qj BK120.out 0).trans rfl,(qj BK120.out 1).trans rfl,(qj BK120.out 2).trans rfl,(qj BK120.out 3).trans rfl⟩ (fun hHeld=>?_)
  generalize w22.drew=w23 at HO111 HO117 BK101 BK120 HI105 HB hHeld ⊢
  refine pure_ (i:=0) (N:=some 44) (v:=?_) (a':=?_) #[Z,Y,Y,Y,Y] rfl rfl (by kernel_rfl) (fun _ _ _ h=>h) (Or.inl ⟨by rfl,?_⟩) ?_ ?_
  rotate_left
  ·intro w'
   go_simp
   with_reducible rfl
  rotate_left
  ·simp only[Act.put,jq5,jq6,jq7,i64_w,i32_w]
   rfl
  refine take_ (i:=2) (N:=some 46) (v:=?_) (a':=?_) #[Z,Y,Z,Y,Y] rfl rfl (by kernel_rfl) (fun _ _ _ h=>h) (Or.inl ⟨by rfl,?_⟩) hHeld ?_ ?_
  rotate_left
  ·rintro w' ⟨s0,s1,s2,s3⟩
   go_simp
   with_reducible rfl
  rotate_left
  ·simp only[Act.put,jq5,jq6,jq7,i64_w,i32_w]
   rfl
  refine one_ (i:=1) (N:=some 45) #[Z,Z,Z,Y,Y] rfl rfl (by kernel_rfl) (by decide) (fun K hK=>?_)
  refine goes_ Try.func66 (by kernel_rfl) rfl #[.int .i64 (wrap64 (1 + t106))] (by rfl) rfl rfl (by(try simp only[jq0,jq1,jq2]);first|done|rfl|(simp only[jq3,jq4];rfl)) ?_
  with_reducible refine(qkj.calls k (wrap64 (1 + t106)) t124 _ A8.out).mono ?_
  rintro e w' ⟨rfl,⟨nd,rfl⟩⟩
  refine⟨_,rfl,?_⟩
  refine hK.out _ _ ⟨(qj BK120.out 0).trans rfl,(qj BK120.out 1).trans rfl,(qj BK120.out 2).trans rfl,(qj BK120.out 3).trans rfl⟩ (fun hHeld=>?_)
  clear hK K
  refine norm_ (a':=?_) ?_ ?_
  rotate_left
  ·show Act.put _ (some 45) _=_
   simp only[Act.put,jq5,jq6,jq7,i64_w,i32_w]
   rfl
  refine pure_ (i:=3) (N:=some 2) (v:=?_) (a':=?_) #[Z,Z,Z,Z,Y] rfl rfl (by kernel_rfl) (fun _ _ _ h=>h) (Or.inl ⟨by rfl,?_⟩) ?_ ?_
  rotate_left
  ·intro w'
   go_simp
   with_reducible rfl
  rotate_left
  ·simp only[Act.put,jq5,jq6,jq7,i64_w,i32_w]
   rfl
  refine one_ (i:=4) (N:=none) #[Z,Z,Z,Z,Z] rfl rfl (by kernel_rfl) (by decide) (fun K hK=>?_)
  have hs24:w23.cell? ⟨gb101,0,none⟩ = some (.int .i64 0):=(qj BK101.out 0).trans rfl
  have hfs24:=qz BK101.out 0
  have hns24_1:=NB120_101.out
  have hms24_1:=NB101_120.out
  have hs25:w23.cell? ⟨gb101,1,none⟩ = some (.slice none 0 0):=(qj BK101.out 1).trans rfl
  have hfs25:=qz BK101.out 1
  have hns25_1:=NB120_101.out
  have hms25_1:=NB101_120.out
  have hs26:w23.cell? ⟨gb101,2,none⟩ = some (.int .i64 0):=(qj BK101.out 2).trans rfl
  have hfs26:=qz BK101.out 2
  have hns26_1:=NB120_101.out
  have hms26_1:=NB101_120.out
  have hs27:w23.cell? ⟨gb101,3,none⟩ = some (.int .i64 0):=(qj BK101.out 3).trans rfl
  have hfs27:=qz BK101.out 3
  have hns27_1:=NB120_101.out
  have hms27_1:=NB101_120.out
  refine skip_ (w1:=?_) (by rfl) rfl ?_ ?_
  rotate_left
  ·go_simp
   rfl
  refine hK.out _ _ ⟨((cell_far (p:=⟨gb101,_,none⟩) NB120_101.out _).trans (((cell_far (p:=⟨gb101,_,none⟩) NB120_101.out _).trans (((cell_far (p:=⟨gb101,_,none⟩) NB120_101.out _).trans (((cell_far (p:=⟨gb101,_,none⟩) NB120_101.out _).trans (hHeld.1)))))))),((cell_far (p:=⟨gb101,_,none⟩) NB120_101.out _).trans (((cell_far (p:=⟨gb101,_,none⟩) NB120_101.out _).trans (((cell_far (p:=⟨gb101,_,none⟩) NB120_101.out _).trans (((cell_far (p:=⟨gb101,_,none⟩) NB120_101.out _).trans (hHeld.2.1)))))))),((cell_far (p:=⟨gb101,_,none⟩) NB120_101.out _).trans (((cell_far (p:=⟨gb101,_,none⟩) NB120_101.out _).trans (((cell_far (p:=⟨gb101,_,none⟩) NB120_101.out _).trans (((cell_far (p:=⟨gb101,_,none⟩) NB120_101.out _).trans (hHeld.2.2.1)))))))),((cell_far (p:=⟨gb101,_,none⟩) NB120_101.out _).trans (((cell_far (p:=⟨gb101,_,none⟩) NB120_101.out _).trans (((cell_far (p:=⟨gb101,_,none⟩) NB120_101.out _).trans (((cell_far (p:=⟨gb101,_,none⟩) NB120_101.out _).trans (hHeld.2.2.2))))))))⟩ (fun hHeld=>?_)
  clear hK K
  refine done_ (by kernel_rfl) ?_
  try go_wp2
  refine bodyPost_ret (results_tc rfl _ _ gb101 61 #[.int .i64 (wrap64 (t114 + 1)),.slice Ao19 t115.length co19,.int .i64 t118,.int .i64 t119] (0,0) _ rfl (by(with_reducible repeat(first|refine qw ?_ _|refine qx ?_|refine qv ?_ _));refine blk_put (cs:=#[.int .i64 (wrap64 (t114 + 1)),.slice Ao19 t115.length co19,.int .i64 t118,.int .i64 0]) ?_ 3 _ rfl;(with_reducible repeat(first|refine qw ?_ _|refine qx ?_|refine qv ?_ _));refine blk_put (cs:=#[.int .i64 (wrap64 (t114 + 1)),.slice Ao19 t115.length co19,.int .i64 0,.int .i64 0]) ?_ 2 _ rfl;(with_reducible repeat(first|refine qw ?_ _|refine qx ?_|refine qv ?_ _));refine blk_put (cs:=#[.int .i64 (wrap64 (t114 + 1)),.slice none 0 0,.int .i64 0,.int .i64 0]) ?_ 1 _ rfl;(with_reducible repeat(first|refine qw ?_ _|refine qx ?_|refine qv ?_ _));refine blk_put (cs:=#[.int .i64 0,.slice none 0 0,.int .i64 0,.int .i64 0]) ?_ 0 _ rfl;(with_reducible repeat(first|refine qw ?_ _|refine qx ?_|refine qv ?_ _));exact BK101.out) Try.underlying61 rfl (by kernel_rfl)) rfl ?_
  exact⟨_,by first|rfl|(simp[*,jv,jk] <;> rfl),by(with_reducible repeat(first|apply Kd.zv|apply Kd.zk|apply Kd.zw));exact Kd.R_mono (Kd.R_far (p:=⟨gb101,3,none⟩) (Kd.R_far (p:=⟨gb101,2,none⟩) (Kd.R_far (p:=⟨gb101,1,none⟩) (Kd.R_far (p:=⟨gb101,0,none⟩) (Kd.R_types HO117.out BK101.out (by decide)) (fun _ hk=>hk.2) (.int .i64 (wrap64 (t114 + 1)))) (fun _ hk=>hk.2) (.slice Ao19 t115.length co19)) (fun _ hk=>hk.2) (.int .i64 t118)) (fun _ hk=>hk.2) (.int .i64 t119)) (fun _ hk=>trivial),by repeat(first|(with_reducible first|exact HB.out|apply G|apply J|apply qq|refine qk ?_ (wj.ge HI105.out)|refine qk ?_ GE101.out|refine qk ?_ GE120.out)|exact HB.out)⟩
 ·rw[if_neg c7] at H
  have c7b0:(t121 == 0)=false:=beq_eq_false_iff_ne.mpr c7
  have c7b1:(t121 != 0)=true:=bne_iff_ne.mpr c7
  by_cases c28:t121=1
  ·rw[if_pos c28] at H
   have c28b0:(t121 == 1)=true:=beq_iff_eq.mpr c28
   have c28b1:(t121 != 1)=false:=bne_eq_false_iff_eq.mpr c28
   clear c28
   by_cases c29:(t115.length:Int) > 0
   ·rw[if_pos c29] at H
    have c29b0:decide (0 < (t115.length:Int))=true:=decide_eq_true c29
    have c29b1:decide (0 < t115.length)=true:=decide_eq_true (by omega)
    clear c29
    by_cases c30 : 0 < (t115.length:Int)
    ·rw[if_pos c30] at H
     have c30b0:decide (0 < (t115.length:Int))=true:=decide_eq_true c30
     have c30b1:decide (0 < t115.length)=true:=decide_eq_true (by omega)
     clear c30
     obtain⟨y126,hy126⟩ : ∃ y_:List Int,y_=(t115.set (0:Int).toNat (((rd t115 0) + 1) % 256)):=⟨_,rfl⟩
     replace H:((qkj.f k (wrap64 (1 + t106))).bind fun t127=>(some (t127,t114,y126,t118,t119)))=some (r1,r2,r3,r4,r5):=by first|(rw[hy126];with_reducible exact H)|(have H2_:=(Option.bind_some _ _).symm.trans H;rw[hy126];with_reducible exact H2_)|(have H2_:=(Option.bind_some _ _).symm.trans H;with_reducible exact H2_)|with_reducible exact H|(rw[hy126];exact H)|exact H
     have Ny126:=U.mk hy126
     clear hy126
     replace H:=jq8.mp H
     obtain⟨t127,A320,H⟩:=H
     try dsimp only at H
     have A32:=U.mk A320
     clear A320
     simp only[Option.some.injEq,Prod.mk.injEq] at H
     obtain⟨rfl,rfl,rfl,rfl,rfl⟩:=H
     go_enter Try.func65,Try.ntmps65
     try go_wp2_with (first|((with_reducible refine gate_dst (N:=3) rfl ?_);refine box_event ?hg (N:=3) ?hd (cs:=#[.int .i64 0,.slice none 0 0,.int .i64 0,.int .i64 0]) (t:=61) ?hr ?_;(case hd=>rfl);(case hg=>rfl);(case hr=>first|(go_simp;done)|(go_simp;rfl));intro gb101 hg w33 hbox hb;have BK101:=U.mk (hbox);have GW101:=U.mk ((by rw[hg];exact(zj (by solve_by_elim only[HB.out,G,J,qq])):w.heap.size≤gb101));have GE101:=U.mk ((by rw[hg];exact(zj (by solve_by_elim only[HB.out,G,J,qq])):w.heap.size≤gb101));replace HB:=U.mk (zz (by solve_by_elim only[HB.out,G,J,qq]) hb);clear hb hbox hg)|((with_reducible refine gate_box (t:=107) rfl ?_);refine boxGoesL_ (some 9) rfl rfl (t:=107) (cs:=#[.slice A0 l0.length c0,.int .i64 0,.int .u64 0]) (by first|(go_simp;done)|(go_simp;rfl)) ?_;(with_reducible refine(newCur.calls _ _ l0 0 0 t102 t103 t104 w _ ?side1 ?side2 ?side3 A2.out).mono ?_);(case side1=>repeat(first|(with_reducible first|exact HB.out|apply G|apply J|apply qq|refine qk ?_ GE101.out)|exact HB.out));(case side2=>exact HR0.out);(case side3=>exact HC0.out);rintro e w34 ⟨g105,rfl,hi,hb,hb2⟩;refine⟨_,rfl,?_⟩;replace HB:=U.mk (hb);have HI105:=U.mk (hi);have NB105_101:=U.mk (wj.ne_blk hi (vx (g:=gb101) (o:=.cells #[.int .i64 0,.slice none 0 0,.int .i64 0,.int .i64 0] 61 (0,0)) (by solve_by_elim only[BK101.out,qw,qx,qv]) hb2) (by decide));have NB101_105:=U.mk (Ne.symm (wj.ne_blk hi (vx (g:=gb101) (o:=.cells #[.int .i64 0,.slice none 0 0,.int .i64 0,.int .i64 0] 61 (0,0)) (by solve_by_elim only[BK101.out,qw,qx,qv]) hb2) (by decide)));replace BK101:=U.mk (vx (g:=gb101) (o:=.cells #[.int .i64 0,.slice none 0 0,.int .i64 0,.int .i64 0] 61 (0,0)) (by solve_by_elim only[BK101.out,qw,qx,qv]) hb2);(try clear hb hb2 hi))|((with_reducible refine jw (f:=109) rfl ?_);refine goesL_ (some 11) rfl rfl Try.func109 (by kernel_rfl) rfl #[.pointer (some ⟨g105,0,none⟩),.int .i64 60000] rfl (by(try simp only[jq0,jq1,jq2]);first|done|rfl|(simp only[jq3,jq4];rfl)) ?_;(with_reducible refine(qwq.calls g105 t102 t103 t104 60000 t106 t107 t108 w _ ?side1 ?side2 A3.out).mono ?_);(case side1=>repeat(first|(with_reducible first|exact HI105.out|apply wj.alloc|apply wj.drewN|apply wj.drew|apply wj.set_1|apply wj.set_2|refine wj.far ?_ NB105_101.out _)|exact HI105.out));(case side2=>repeat(first|(with_reducible first|exact HB.out|apply G|apply J|apply qq|refine qk ?_ (wj.ge HI105.out)|refine qk ?_ GE101.out)|exact HB.out));rintro e w35 ⟨rfl,hi,hb,hk⟩;refine⟨_,rfl,?_⟩;replace BK101:=U.mk (zq.blk hk (g':=gb101) (o:=.cells #[.int .i64 0,.slice none 0 0,.int .i64 0,.int .i64 0] 61 (0,0)) (by solve_by_elim only[BK101.out,qw,qx,qv]) NB101_105.out (by simp));replace HB:=U.mk (hb);replace HI105:=U.mk (hi);(try clear hb hk hi))|((with_reducible refine jw (f:=107) rfl ?_);refine goesL_ (some 15) rfl rfl Try.func107 (by kernel_rfl) rfl #[.pointer (some ⟨g105,0,none⟩),.int .i64 8] rfl (by(try simp only[jq0,jq1,jq2]);first|done|rfl|(simp only[jq3,jq4];rfl)) ?_;(with_reducible refine(qvq.calls k g105 t102 t107 t108 8 t109 t112 t113 w _ ?side1 ?side2 A4.out).mono ?_);(case side1=>repeat(first|(with_reducible first|exact HI105.out|apply wj.alloc|apply wj.drewN|apply wj.drew|apply wj.set_1|apply wj.set_2|refine wj.far ?_ NB105_101.out _)|exact HI105.out));(case side2=>repeat(first|(with_reducible first|exact HB.out|apply G|apply J|apply qq|refine qk ?_ (wj.ge HI105.out)|refine qk ?_ GE101.out)|exact HB.out));rintro e w36 ⟨v110,rfl,ho0,hi,hb,hk⟩;refine⟨_,rfl,?_⟩;have HO111:=U.mk (Kd.N_lower (Kd.N_mono (ok':=fun k_=>k_≠gb101∧k_≠g105) ho0 (fun k_ hk_=>⟨(Kd.freshB (g:=gb101) (o:=.cells #[.int .i64 0,.slice none 0 0,.int .i64 0,.int .i64 0] 61 (0,0)) (by solve_by_elim only[BK101.out,qw,qx,qv]) k_ hk_),(wj.fresh (by solve_by_elim (maxDepth:=20) only[HI105.out,wj.alloc,wj.drewN,wj.drew,wj.set_1,wj.set_2,wj.far,NB105_101.out]) k_ hk_)⟩)) (zj (by solve_by_elim (maxDepth:=20) only[HB.out,G,J,qq,qk,(wj.ge HI105.out),qk,GE101.out])));replace BK101:=U.mk (zq.blk hk (g':=gb101) (o:=.cells #[.int .i64 0,.slice none 0 0,.int .i64 0,.int .i64 0] 61 (0,0)) (by solve_by_elim only[BK101.out,qw,qx,qv]) NB101_105.out (by simp));replace HB:=U.mk (hb);replace HI105:=U.mk (hi);(try clear hb hk hi ho0);obtain⟨Ao37,co37,eo37⟩:=Kd.N_slice HO111.out;subst eo37)|((with_reducible refine jw (f:=58) rfl ?_);refine goesL_ (some 16) rfl rfl Try.func58 (by kernel_rfl) rfl #[.int .i64 (wrap64 (1 + t106)),.slice Ao37 t109.length co37] rfl (by(try simp only[jq0,jq1,jq2]);first|done|rfl|(simp only[jq3,jq4];rfl)) ?_;(with_reducible refine(qkv.calls k (wrap64 (1 + t106)) _ _ t109 t114 t115 t118 t119 _ ?side1 ?side2 A5.out).mono ?_);(case side1=>solve_by_elim only[(Kd.N_reads' HO111.out).2.2,Kd.C_alloc,Kd.C_drewN,Kd.C_drew]);(case side2=>exact(Kd.N_reads' HO111.out).2.1);rintro e w38 ⟨v116,rfl,ho0,hb⟩;refine⟨_,rfl,?_⟩;replace HO111:=U.mk (Kd.N_elder' (by solve_by_elim only[HO111.out,Kd.kv,Kd.kk,Kd.kw]) (Kd.R_base ho0) hb);have HO117:=U.mk (Kd.R_lower ho0 (zj (by solve_by_elim (maxDepth:=20) only[HB.out,G,J,qq,qk,(wj.ge HI105.out),qk,GE101.out])));replace BK101:=U.mk (vx (g:=gb101) (o:=.cells #[.int .i64 0,.slice none 0 0,.int .i64 0,.int .i64 0] 61 (0,0)) (by solve_by_elim only[BK101.out,qw,qx,qv]) hb);replace HB:=U.mk (zz (by solve_by_elim (maxDepth:=20) only[HB.out,G,J,qq,qk,(wj.ge HI105.out),qk,GE101.out]) hb);replace HI105:=U.mk (wj.below (by solve_by_elim (maxDepth:=20) only[HI105.out,wj.alloc,wj.drewN,wj.drew,wj.set_1,wj.set_2,wj.far,NB105_101.out]) hb);(try clear hb ho0))|((with_reducible refine gate_dst (N:=6) rfl ?_);refine box_event ?hg (N:=6) ?hd (cs:=#[.int .i64 0,.slice none 0 0,.int .i64 0,.int .i64 0]) (t:=61) ?hr ?_;(case hd=>rfl);(case hg=>rfl);(case hr=>first|(go_simp;done)|(go_simp;rfl));intro gb120 hg w39 hbox hb;replace HO111:=U.mk (Kd.N_below (Kd.N_elderB (by solve_by_elim only[HO111.out,Kd.kv,Kd.kk,Kd.kw]) gb120 (Nat.le_of_eq hg.symm)) hb);replace HO117:=U.mk (Kd.R_below (by solve_by_elim only[HO117.out,Kd.zv,Kd.zk,Kd.zw]) hb);have BK120:=U.mk (hbox);have GW120:=U.mk ((by rw[hg];exact(zj (by solve_by_elim (maxDepth:=20) only[HB.out,G,J,qq,qk,(wj.ge HI105.out),qk,GE101.out])):w.heap.size≤gb120));have GE120:=U.mk ((by rw[hg];exact(zj (by solve_by_elim (maxDepth:=20) only[HB.out,G,J,qq,qk,(wj.ge HI105.out),qk,GE101.out])):w.heap.size≤gb120));replace HB:=U.mk (zz (by solve_by_elim (maxDepth:=20) only[HB.out,G,J,qq,qk,(wj.ge HI105.out),qk,GE101.out]) hb);have NB101_120:=U.mk ((by rw[hg];exact Nat.ne_of_lt (blk_lt (g:=gb101) (o:=.cells #[.int .i64 0,.slice none 0 0,.int .i64 0,.int .i64 0] 61 (0,0)) (by solve_by_elim only[BK101.out,qw,qx,qv])):gb101≠gb120));have NB120_101:=U.mk ((by rw[hg];exact Nat.ne_of_gt (blk_lt (g:=gb101) (o:=.cells #[.int .i64 0,.slice none 0 0,.int .i64 0,.int .i64 0] 61 (0,0)) (by solve_by_elim only[BK101.out,qw,qx,qv])):gb120≠gb101));replace BK101:=U.mk (vx (g:=gb101) (o:=.cells #[.int .i64 0,.slice none 0 0,.int .i64 0,.int .i64 0] 61 (0,0)) (by solve_by_elim only[BK101.out,qw,qx,qv]) hb);have NB105_120:=U.mk ((by rw[hg];exact Nat.ne_of_lt (wj.lt (show wj w _ g105 t102 t112 t113 from by repeat(first|(with_reducible first|exact HI105.out|apply wj.alloc|apply wj.drewN|apply wj.drew|apply wj.set_1|apply wj.set_2|refine wj.far ?_ NB105_101.out _)|exact HI105.out))):g105≠gb120));have NB120_105:=U.mk ((by rw[hg];exact Nat.ne_of_gt (wj.lt (show wj w _ g105 t102 t112 t113 from by repeat(first|(with_reducible first|exact HI105.out|apply wj.alloc|apply wj.drewN|apply wj.drew|apply wj.set_1|apply wj.set_2|refine wj.far ?_ NB105_101.out _)|exact HI105.out))):gb120≠g105));replace HI105:=U.mk (wj.below (by solve_by_elim (maxDepth:=20) only[HI105.out,wj.alloc,wj.drewN,wj.drew,wj.set_1,wj.set_2,wj.far,NB105_101.out]) hb);clear hb hbox hg;have hnb40:=NB120_101.out;have hnc40:=NB101_120.out;have hnb41:=NB120_105.out;have hnc41:=NB105_120.out;have hcz42_0:w39.cell? ⟨gb120,0,none⟩ = some (.int .i64 0):=(qj BK120.out 0).trans rfl;have hcz42_1:w39.cell? ⟨gb120,1,none⟩ = some (.slice none 0 0):=(qj BK120.out 1).trans rfl;have hcz42_2:w39.cell? ⟨gb120,2,none⟩ = some (.int .i64 0):=(qj BK120.out 2).trans rfl;have hcz42_3:w39.cell? ⟨gb120,3,none⟩ = some (.int .i64 0):=(qj BK120.out 3).trans rfl;have hfz42_0:=qz BK120.out 0;have hfz42_1:=qz BK120.out 1;have hfz42_2:=qz BK120.out 2;have hfz42_3:=qz BK120.out 3;obtain⟨Ao43,co43,eo43⟩:=Kd.R_slice HO117.out;subst eo43)|((with_reducible refine jw (f:=109) rfl ?_);refine goesL_ (some 18) rfl rfl Try.func109 (by kernel_rfl) rfl #[.pointer (some ⟨g105,0,none⟩),.int .i64 8] rfl (by(try simp only[jq0,jq1,jq2]);first|done|rfl|(simp only[jq3,jq4];rfl)) ?_;(with_reducible refine(qwq.calls g105 t102 t112 t113 8 t121 t122 t123 w _ ?side1 ?side2 A6.out).mono ?_);(case side1=>repeat(first|(with_reducible first|exact HI105.out|apply wj.alloc|apply wj.drewN|apply wj.drew|apply wj.set_1|apply wj.set_2|refine wj.far ?_ NB105_101.out _|refine wj.far ?_ NB105_120.out _)|exact HI105.out));(case side2=>repeat(first|(with_reducible first|exact HB.out|apply G|apply J|apply qq|refine qk ?_ (wj.ge HI105.out)|refine qk ?_ GE101.out|refine qk ?_ GE120.out)|exact HB.out));rintro e w44 ⟨rfl,hi,hb,hk⟩;refine⟨_,rfl,?_⟩;replace BK101:=U.mk (zq.blk hk (g':=gb101) (o:=.cells #[.int .i64 0,.slice none 0 0,.int .i64 0,.int .i64 0] 61 (0,0)) (by(with_reducible repeat(first|refine qw ?_ _|refine qx ?_|refine qv ?_ _));refine blk_far ?_ NB101_120.out _;(with_reducible repeat(first|refine qw ?_ _|refine qx ?_|refine qv ?_ _));refine blk_far ?_ NB101_120.out _;(with_reducible repeat(first|refine qw ?_ _|refine qx ?_|refine qv ?_ _));refine blk_far ?_ NB101_120.out _;(with_reducible repeat(first|refine qw ?_ _|refine qx ?_|refine qv ?_ _));refine blk_far ?_ NB101_120.out _;(with_reducible repeat(first|refine qw ?_ _|refine qx ?_|refine qv ?_ _));exact BK101.out) NB101_105.out (by simp));replace HO111:=U.mk (Kd.N_mono (Kd.N_keep (Kd.N_mono (ok:=fun k_=>(((k_≠gb101∧k_≠g105)∧some k_≠(.slice Ao43 t115.length co43:Value).ownBlock)∧k_≠gb120)) (by(with_reducible repeat(first|apply Kd.kv|apply Kd.kk|apply Kd.kw));exact(Kd.N_mono (Kd.N_far (p:=⟨gb120,3,none⟩) (Kd.N_far (p:=⟨gb120,2,none⟩) (Kd.N_far (p:=⟨gb120,1,none⟩) (Kd.N_far (p:=⟨gb120,0,none⟩) (Kd.N_mono HO111.out (fun k_ hk=>(⟨hk,hk.2⟩ : _∧k_≠gb120))) (fun _ hk=>hk.2) (.int .i64 t114)) (fun _ hk=>hk.2) (.slice Ao43 t115.length co43)) (fun _ hk=>hk.2) (.int .i64 t118)) (fun _ hk=>hk.2) (.int .i64 t119)) (fun _ h_=>h_.1))) (fun k_ hk_=>(⟨hk_,hk_.1.1.2⟩ : _∧k_≠g105))) hk (fun _ h=>h.2)) (fun _ h=>h.1));replace HO117:=U.mk (Kd.R_mono (Kd.R_keep (wj.apart (show wj w _ g105 t102 t112 t113 from by repeat(first|(with_reducible first|exact HI105.out|apply wj.alloc|apply wj.drewN|apply wj.drew|apply wj.set_1|apply wj.set_2|refine wj.far ?_ NB105_101.out _|refine wj.far ?_ NB105_120.out _)|exact HI105.out)) (by(with_reducible repeat(first|apply Kd.zv|apply Kd.zk|apply Kd.zw));exact(Kd.R_mono (Kd.R_far (p:=⟨gb120,3,none⟩) (Kd.R_far (p:=⟨gb120,2,none⟩) (Kd.R_far (p:=⟨gb120,1,none⟩) (Kd.R_far (p:=⟨gb120,0,none⟩) (Kd.R_types HO117.out BK120.out (by decide)) (fun _ hk=>hk.2) (.int .i64 t114)) (fun _ hk=>hk.2) (.slice Ao43 t115.length co43)) (fun _ hk=>hk.2) (.int .i64 t118)) (fun _ hk=>hk.2) (.int .i64 t119)) (fun _ h_=>h_.1))) (by decide)) hk (fun _ h=>h.2)) (fun _ h=>h.1));replace BK120:=U.mk (zq.blk hk (g':=gb120) (o:=.cells #[.int .i64 t114,.slice Ao43 t115.length co43,.int .i64 t118,.int .i64 t119] 61 (0,0)) (by(with_reducible repeat(first|refine qw ?_ _|refine qx ?_|refine qv ?_ _));refine blk_put (cs:=#[.int .i64 t114,.slice Ao43 t115.length co43,.int .i64 t118,.int .i64 0]) ?_ 3 _ rfl;(with_reducible repeat(first|refine qw ?_ _|refine qx ?_|refine qv ?_ _));refine blk_put (cs:=#[.int .i64 t114,.slice Ao43 t115.length co43,.int .i64 0,.int .i64 0]) ?_ 2 _ rfl;(with_reducible repeat(first|refine qw ?_ _|refine qx ?_|refine qv ?_ _));refine blk_put (cs:=#[.int .i64 t114,.slice none 0 0,.int .i64 0,.int .i64 0]) ?_ 1 _ rfl;(with_reducible repeat(first|refine qw ?_ _|refine qx ?_|refine qv ?_ _));refine blk_put (cs:=#[.int .i64 0,.slice none 0 0,.int .i64 0,.int .i64 0]) ?_ 0 _ rfl;(with_reducible repeat(first|refine qw ?_ _|refine qx ?_|refine qv ?_ _));exact BK120.out) NB120_105.out (by simp));replace HB:=U.mk (hb);replace HI105:=U.mk (hi);(try clear hb hk hi);have hcz45_0:w44.cell? ⟨gb120,0,none⟩ = some (.int .i64 t114):=(qj BK120.out 0).trans rfl;have hcz45_1:w44.cell? ⟨gb120,1,none⟩ = some (.slice Ao43 t115.length co43):=(qj BK120.out 1).trans rfl;have hcz45_2:w44.cell? ⟨gb120,2,none⟩ = some (.int .i64 t118):=(qj BK120.out 2).trans rfl;have hcz45_3:w44.cell? ⟨gb120,3,none⟩ = some (.int .i64 t119):=(qj BK120.out 3).trans rfl;have hfz45_0:=qz BK120.out 0;have hfz45_1:=qz BK120.out 1;have hfz45_2:=qz BK120.out 2;have hfz45_3:=qz BK120.out 3;have p125 : 0≤(0:Int):=(by omega);have q125 : 0 < (t115.length:Int):=of_decide_eq_true (by assumption);obtain⟨ad125,e125,hx125_0⟩:=Kd.at_int (Kd.R_reads' HO117.out).2.2 0 p125 q125;cases e125;have qi125:(0 < t115.length)=True:=eq_true (by omega);(try rw[show((0:Int)).toNat=0 from rfl] at hx125_0);(try rw[Addr.add_zero'] at hx125_0);replace p125:=eq_true p125;replace q125:=eq_true q125;have p31 : 0≤(0:Int):=(by omega);have q31:(0:Int) < ((t115.length:Int):Int):=of_decide_eq_true (by assumption);have qi31:(0 < t115.length)=True:=eq_true (by omega);obtain⟨go31,co31,eo31,gb31,gl31,cl31,HG31⟩:=Kd.R_form HO117.out (by omega);(first|cases eo31|(injection eo31 with ea_ en_ ec_;(first|subst ea_|(injection ea_ with ea_;subst ea_));subst ec_;clear en_));have GB31:=U.mk gb31;have GG31:=U.mk HG31;clear gb31 gl31 HG31;(first|simp only[add_plain] at hx125_0|skip);obtain⟨hx31_0,hf31_0⟩:=Kd.R_celln 0 HO117.out (0:Int) p31 q31;(try rw[show((0:Int)).toNat=0 from rfl] at hx31_0);(try simp only[Nat.reduceMul,Nat.zero_mul,Nat.zero_add,Nat.reduceAdd] at hx31_0);(try rw[show((0:Int)).toNat=0 from rfl] at hf31_0);(try simp only[Nat.reduceMul,Nat.zero_mul,Nat.zero_add,Nat.reduceAdd] at hf31_0);replace p31:=eq_true p31;replace q31:=eq_true q31;obtain⟨hy46_,hz46_⟩:=Kd.R_celln 0 HO117.out (0:Int) (by omega) (of_decide_eq_true (by assumption));(try simp only[Int.reduceToNat,Int.toNat_zero,Int.toNat_ofNat,Nat.reduceMul,Nat.zero_mul,Nat.zero_add] at hy46_ hz46_);(try rw[show((0:Int)).toNat=0 from rfl] at hy46_);(try rw[show((0:Int)).toNat=0 from rfl] at hz46_);have HP46:=Kd.R_putg HO117.out (0:Int) (((rd t115 0) + 1) % 256))|((with_reducible refine jx (t:=5) (p:=36) rfl ?_);refine kz (t:=5) (p:=36) (v:=?vo_w47) (w1:=(w44.setCell ⟨go31,(0:Int).toNat,none⟩ (.int .u8 (((rd t115 0) + 1) % 256)))) ?hg ?ho ?hn ?hr ?_;(case ho=>rfl);(case hg=>rfl);(case hn=>rfl);(case hr=>first|(go_simp;done)|(go_simp;rfl));intro w47 hw;have hg:w44.grownBy w47 (some go31):=(by rw[hw];exact HP46.2);have hp_:Kd.R (Kd.int .u8) 5 w47 w.heap.size (fun _=>True) (.slice (some ⟨go31,0,none⟩) t115.length co43) y126:=(by rw[hw,Ny126.out];exact HP46.1);clear HP46;replace BK101:=U.mk (blk_grown (g:=gb101) (o:=.cells #[.int .i64 0,.slice none 0 0,.int .i64 0,.int .i64 0] 61 (0,0)) (by solve_by_elim only[BK101.out,qw,qx,qv]) hg (Kd.R_ne HO117.out BK101.out (by decide)));replace HI105:=U.mk (wj.grown (by solve_by_elim (maxDepth:=20) only[HI105.out,wj.alloc,wj.drewN,wj.drew,wj.set_1,wj.set_2,wj.far,NB105_101.out,wj.far,NB105_120.out]) hg (wj.own_ne HI105.out HO117.out (by decide)));replace HO111:=U.mk (Kd.N_afterv (v:=(.slice (some ⟨go31,0,none⟩) t115.length co43)) (v1:=(.slice (some ⟨go31,0,none⟩) t115.length co43)) (ok:=(fun k_=>k_≠gb101∧k_≠g105∧k_≠gb120)) (by(with_reducible repeat(first|apply Kd.kv|apply Kd.kk|apply Kd.kw));exact Kd.N_mono HO111.out (fun _ hk=>⟨⟨hk.1.1.1,⟨hk.1.1.2,hk.2⟩⟩,hk.1.2⟩)) hg (.inl rfl));replace BK120:=U.mk (blk_grown (g:=gb120) (o:=.cells #[.int .i64 t114,.slice (some ⟨go31,0,none⟩) t115.length co43,.int .i64 t118,.int .i64 t119] 61 (0,0)) (by solve_by_elim only[BK120.out,qw,qx,qv]) hg (Kd.R_ne HO117.out BK120.out (by decide)));replace HO117:=U.mk (hp_);replace HB:=U.mk ((by rw[hw];exact qk (HB.out) GB31.out:Below w.heap.size w w47));clear hg hw hp_))
     replace HO111:=U.mk (Kd.kw HO111.out)
     replace HO117:=U.mk (Kd.zw HO117.out)
     replace BK101:=U.mk (qx BK101.out)
     replace BK120:=U.mk (qx BK120.out)
     replace HI105:=U.mk (wj.drew HI105.out)
     replace HB:=U.mk (qq HB.out)
     refine start_ (n:=5) (S:=fun w'=>w'.cell? ⟨gb120,0,none⟩ = some (.int .i64 t114)∧w'.cell? ⟨gb120,1,none⟩ = some (.slice (some ⟨go31,0,none⟩) t115.length co43)∧w'.cell? ⟨gb120,2,none⟩ = some (.int .i64 t118)∧w'.cell? ⟨gb120,3,none⟩ = some (.int .i64 t119)) (ds:=[]) #[Y,Y,Y,Y,Y] (by kernel_rfl) rfl rfl ⟨(qj BK120.out 0).trans rfl,(qj BK120.out 1).trans rfl,(qj BK120.out 2).trans rfl,(qj BK120.out 3).trans rfl⟩ (fun hHeld=>?_)
     generalize w47.drew=w48 at HO111 HO117 BK101 BK120 HI105 HB hHeld ⊢
     refine pure_ (i:=0) (N:=some 44) (v:=?_) (a':=?_) #[Z,Y,Y,Y,Y] rfl rfl (by kernel_rfl) (fun _ _ _ h=>h) (Or.inl ⟨by rfl,?_⟩) ?_ ?_
     rotate_left
     ·intro w'
      go_simp
      with_reducible rfl
     rotate_left
     ·simp only[Act.put,jq5,jq6,jq7,i64_w,i32_w]
      rfl
     refine take_ (i:=2) (N:=some 46) (v:=?_) (a':=?_) #[Z,Y,Z,Y,Y] rfl rfl (by kernel_rfl) (fun _ _ _ h=>h) (Or.inl ⟨by rfl,?_⟩) hHeld ?_ ?_
     rotate_left
     ·rintro w' ⟨s0,s1,s2,s3⟩
      go_simp
      with_reducible rfl
     rotate_left
     ·simp only[Act.put,jq5,jq6,jq7,i64_w,i32_w]
      rfl
     refine one_ (i:=1) (N:=some 45) #[Z,Z,Z,Y,Y] rfl rfl (by kernel_rfl) (by decide) (fun K hK=>?_)
     refine goes_ Try.func66 (by kernel_rfl) rfl #[.int .i64 (wrap64 (1 + t106))] (by rfl) rfl rfl (by(try simp only[jq0,jq1,jq2]);first|done|rfl|(simp only[jq3,jq4];rfl)) ?_
     with_reducible refine(qkj.calls k (wrap64 (1 + t106)) t127 _ A32.out).mono ?_
     rintro e w' ⟨rfl,⟨nd,rfl⟩⟩
     refine⟨_,rfl,?_⟩
     refine hK.out _ _ ⟨(qj BK120.out 0).trans rfl,(qj BK120.out 1).trans rfl,(qj BK120.out 2).trans rfl,(qj BK120.out 3).trans rfl⟩ (fun hHeld=>?_)
     clear hK K
     refine norm_ (a':=?_) ?_ ?_
     rotate_left
     ·show Act.put _ (some 45) _=_
      simp only[Act.put,jq5,jq6,jq7,i64_w,i32_w]
      rfl
     refine pure_ (i:=3) (N:=some 2) (v:=?_) (a':=?_) #[Z,Z,Z,Z,Y] rfl rfl (by kernel_rfl) (fun _ _ _ h=>h) (Or.inl ⟨by rfl,?_⟩) ?_ ?_
     rotate_left
     ·intro w'
      go_simp
      with_reducible rfl
     rotate_left
     ·simp only[Act.put,jq5,jq6,jq7,i64_w,i32_w]
      rfl
     refine one_ (i:=4) (N:=none) #[Z,Z,Z,Z,Z] rfl rfl (by kernel_rfl) (by decide) (fun K hK=>?_)
     have hs49:w48.cell? ⟨gb101,0,none⟩ = some (.int .i64 0):=(qj BK101.out 0).trans rfl
     have hfs49:=qz BK101.out 0
     have hns49_1:=NB120_101.out
     have hms49_1:=NB101_120.out
     have hs50:w48.cell? ⟨gb101,1,none⟩ = some (.slice none 0 0):=(qj BK101.out 1).trans rfl
     have hfs50:=qz BK101.out 1
     have hns50_1:=NB120_101.out
     have hms50_1:=NB101_120.out
     have hs51:w48.cell? ⟨gb101,2,none⟩ = some (.int .i64 0):=(qj BK101.out 2).trans rfl
     have hfs51:=qz BK101.out 2
     have hns51_1:=NB120_101.out
     have hms51_1:=NB101_120.out
     have hs52:w48.cell? ⟨gb101,3,none⟩ = some (.int .i64 0):=(qj BK101.out 3).trans rfl
     have hfs52:=qz BK101.out 3
     have hns52_1:=NB120_101.out
     have hms52_1:=NB101_120.out
     refine skip_ (w1:=?_) (by rfl) rfl ?_ ?_
     rotate_left
     ·go_simp
      rfl
     refine hK.out _ _ ⟨((cell_far (p:=⟨gb101,_,none⟩) NB120_101.out _).trans (((cell_far (p:=⟨gb101,_,none⟩) NB120_101.out _).trans (((cell_far (p:=⟨gb101,_,none⟩) NB120_101.out _).trans (((cell_far (p:=⟨gb101,_,none⟩) NB120_101.out _).trans (hHeld.1)))))))),((cell_far (p:=⟨gb101,_,none⟩) NB120_101.out _).trans (((cell_far (p:=⟨gb101,_,none⟩) NB120_101.out _).trans (((cell_far (p:=⟨gb101,_,none⟩) NB120_101.out _).trans (((cell_far (p:=⟨gb101,_,none⟩) NB120_101.out _).trans (hHeld.2.1)))))))),((cell_far (p:=⟨gb101,_,none⟩) NB120_101.out _).trans (((cell_far (p:=⟨gb101,_,none⟩) NB120_101.out _).trans (((cell_far (p:=⟨gb101,_,none⟩) NB120_101.out _).trans (((cell_far (p:=⟨gb101,_,none⟩) NB120_101.out _).trans (hHeld.2.2.1)))))))),((cell_far (p:=⟨gb101,_,none⟩) NB120_101.out _).trans (((cell_far (p:=⟨gb101,_,none⟩) NB120_101.out _).trans (((cell_far (p:=⟨gb101,_,none⟩) NB120_101.out _).trans (((cell_far (p:=⟨gb101,_,none⟩) NB120_101.out _).trans (hHeld.2.2.2))))))))⟩ (fun hHeld=>?_)
     clear hK K
     refine done_ (by kernel_rfl) ?_
     try go_wp2
     refine bodyPost_ret (results_tc rfl _ _ gb101 61 #[.int .i64 t114,.slice (some ⟨go31,0,none⟩) t115.length co43,.int .i64 t118,.int .i64 t119] (0,0) _ rfl (by(with_reducible repeat(first|refine qw ?_ _|refine qx ?_|refine qv ?_ _));refine blk_put (cs:=#[.int .i64 t114,.slice (some ⟨go31,0,none⟩) t115.length co43,.int .i64 t118,.int .i64 0]) ?_ 3 _ rfl;(with_reducible repeat(first|refine qw ?_ _|refine qx ?_|refine qv ?_ _));refine blk_put (cs:=#[.int .i64 t114,.slice (some ⟨go31,0,none⟩) t115.length co43,.int .i64 0,.int .i64 0]) ?_ 2 _ rfl;(with_reducible repeat(first|refine qw ?_ _|refine qx ?_|refine qv ?_ _));refine blk_put (cs:=#[.int .i64 t114,.slice none 0 0,.int .i64 0,.int .i64 0]) ?_ 1 _ rfl;(with_reducible repeat(first|refine qw ?_ _|refine qx ?_|refine qv ?_ _));refine blk_put (cs:=#[.int .i64 0,.slice none 0 0,.int .i64 0,.int .i64 0]) ?_ 0 _ rfl;(with_reducible repeat(first|refine qw ?_ _|refine qx ?_|refine qv ?_ _));exact BK101.out) Try.underlying61 rfl (by kernel_rfl)) rfl ?_
     exact⟨_,by first|rfl|(simp[*,jv,jk] <;> rfl),by(with_reducible repeat(first|apply Kd.zv|apply Kd.zk|apply Kd.zw));exact Kd.R_mono (Kd.R_far (p:=⟨gb101,3,none⟩) (Kd.R_far (p:=⟨gb101,2,none⟩) (Kd.R_far (p:=⟨gb101,1,none⟩) (Kd.R_far (p:=⟨gb101,0,none⟩) (Kd.R_types HO117.out BK101.out (by decide)) (fun _ hk=>hk.2) (.int .i64 t114)) (fun _ hk=>hk.2) (.slice (some ⟨go31,0,none⟩) t115.length co43)) (fun _ hk=>hk.2) (.int .i64 t118)) (fun _ hk=>hk.2) (.int .i64 t119)) (fun _ hk=>trivial),by repeat(first|(with_reducible first|exact HB.out|apply G|apply J|apply qq|refine qk ?_ (wj.ge HI105.out)|refine qk ?_ GE101.out|refine qk ?_ GE120.out)|exact HB.out)⟩
    ·rw[if_neg c30] at H
     exact absurd H (by simp)
   ·rw[if_neg c29] at H
    have c29b0:decide (0 < (t115.length:Int))=false:=decide_eq_false c29
    have c29b1:decide (0 < t115.length)=false:=decide_eq_false (by omega)
    clear c29
    replace H:=jq8.mp H
    obtain⟨t128,A530,H⟩:=H
    try dsimp only at H
    have A53:=U.mk A530
    clear A530
    simp only[Option.some.injEq,Prod.mk.injEq] at H
    obtain⟨rfl,rfl,rfl,rfl,rfl⟩:=H
    go_enter Try.func65,Try.ntmps65
    try go_wp2_with (first|((with_reducible refine gate_dst (N:=3) rfl ?_);refine box_event ?hg (N:=3) ?hd (cs:=#[.int .i64 0,.slice none 0 0,.int .i64 0,.int .i64 0]) (t:=61) ?hr ?_;(case hd=>rfl);(case hg=>rfl);(case hr=>first|(go_simp;done)|(go_simp;rfl));intro gb101 hg w54 hbox hb;have BK101:=U.mk (hbox);have GW101:=U.mk ((by rw[hg];exact(zj (by solve_by_elim only[HB.out,G,J,qq])):w.heap.size≤gb101));have GE101:=U.mk ((by rw[hg];exact(zj (by solve_by_elim only[HB.out,G,J,qq])):w.heap.size≤gb101));replace HB:=U.mk (zz (by solve_by_elim only[HB.out,G,J,qq]) hb);clear hb hbox hg)|((with_reducible refine gate_box (t:=107) rfl ?_);refine boxGoesL_ (some 9) rfl rfl (t:=107) (cs:=#[.slice A0 l0.length c0,.int .i64 0,.int .u64 0]) (by first|(go_simp;done)|(go_simp;rfl)) ?_;(with_reducible refine(newCur.calls _ _ l0 0 0 t102 t103 t104 w _ ?side1 ?side2 ?side3 A2.out).mono ?_);(case side1=>repeat(first|(with_reducible first|exact HB.out|apply G|apply J|apply qq|refine qk ?_ GE101.out)|exact HB.out));(case side2=>exact HR0.out);(case side3=>exact HC0.out);rintro e w55 ⟨g105,rfl,hi,hb,hb2⟩;refine⟨_,rfl,?_⟩;replace HB:=U.mk (hb);have HI105:=U.mk (hi);have NB105_101:=U.mk (wj.ne_blk hi (vx (g:=gb101) (o:=.cells #[.int .i64 0,.slice none 0 0,.int .i64 0,.int .i64 0] 61 (0,0)) (by solve_by_elim only[BK101.out,qw,qx,qv]) hb2) (by decide));have NB101_105:=U.mk (Ne.symm (wj.ne_blk hi (vx (g:=gb101) (o:=.cells #[.int .i64 0,.slice none 0 0,.int .i64 0,.int .i64 0] 61 (0,0)) (by solve_by_elim only[BK101.out,qw,qx,qv]) hb2) (by decide)));replace BK101:=U.mk (vx (g:=gb101) (o:=.cells #[.int .i64 0,.slice none 0 0,.int .i64 0,.int .i64 0] 61 (0,0)) (by solve_by_elim only[BK101.out,qw,qx,qv]) hb2);(try clear hb hb2 hi))|((with_reducible refine jw (f:=109) rfl ?_);refine goesL_ (some 11) rfl rfl Try.func109 (by kernel_rfl) rfl #[.pointer (some ⟨g105,0,none⟩),.int .i64 60000] rfl (by(try simp only[jq0,jq1,jq2]);first|done|rfl|(simp only[jq3,jq4];rfl)) ?_;(with_reducible refine(qwq.calls g105 t102 t103 t104 60000 t106 t107 t108 w _ ?side1 ?side2 A3.out).mono ?_);(case side1=>repeat(first|(with_reducible first|exact HI105.out|apply wj.alloc|apply wj.drewN|apply wj.drew|apply wj.set_1|apply wj.set_2|refine wj.far ?_ NB105_101.out _)|exact HI105.out));(case side2=>repeat(first|(with_reducible first|exact HB.out|apply G|apply J|apply qq|refine qk ?_ (wj.ge HI105.out)|refine qk ?_ GE101.out)|exact HB.out));rintro e w56 ⟨rfl,hi,hb,hk⟩;refine⟨_,rfl,?_⟩;replace BK101:=U.mk (zq.blk hk (g':=gb101) (o:=.cells #[.int .i64 0,.slice none 0 0,.int .i64 0,.int .i64 0] 61 (0,0)) (by solve_by_elim only[BK101.out,qw,qx,qv]) NB101_105.out (by simp));replace HB:=U.mk (hb);replace HI105:=U.mk (hi);(try clear hb hk hi))|((with_reducible refine jw (f:=107) rfl ?_);refine goesL_ (some 15) rfl rfl Try.func107 (by kernel_rfl) rfl #[.pointer (some ⟨g105,0,none⟩),.int .i64 8] rfl (by(try simp only[jq0,jq1,jq2]);first|done|rfl|(simp only[jq3,jq4];rfl)) ?_;(with_reducible refine(qvq.calls k g105 t102 t107 t108 8 t109 t112 t113 w _ ?side1 ?side2 A4.out).mono ?_);(case side1=>repeat(first|(with_reducible first|exact HI105.out|apply wj.alloc|apply wj.drewN|apply wj.drew|apply wj.set_1|apply wj.set_2|refine wj.far ?_ NB105_101.out _)|exact HI105.out));(case side2=>repeat(first|(with_reducible first|exact HB.out|apply G|apply J|apply qq|refine qk ?_ (wj.ge HI105.out)|refine qk ?_ GE101.out)|exact HB.out));rintro e w57 ⟨v110,rfl,ho0,hi,hb,hk⟩;refine⟨_,rfl,?_⟩;have HO111:=U.mk (Kd.N_lower (Kd.N_mono (ok':=fun k_=>k_≠gb101∧k_≠g105) ho0 (fun k_ hk_=>⟨(Kd.freshB (g:=gb101) (o:=.cells #[.int .i64 0,.slice none 0 0,.int .i64 0,.int .i64 0] 61 (0,0)) (by solve_by_elim only[BK101.out,qw,qx,qv]) k_ hk_),(wj.fresh (by solve_by_elim (maxDepth:=20) only[HI105.out,wj.alloc,wj.drewN,wj.drew,wj.set_1,wj.set_2,wj.far,NB105_101.out]) k_ hk_)⟩)) (zj (by solve_by_elim (maxDepth:=20) only[HB.out,G,J,qq,qk,(wj.ge HI105.out),qk,GE101.out])));replace BK101:=U.mk (zq.blk hk (g':=gb101) (o:=.cells #[.int .i64 0,.slice none 0 0,.int .i64 0,.int .i64 0] 61 (0,0)) (by solve_by_elim only[BK101.out,qw,qx,qv]) NB101_105.out (by simp));replace HB:=U.mk (hb);replace HI105:=U.mk (hi);(try clear hb hk hi ho0);obtain⟨Ao58,co58,eo58⟩:=Kd.N_slice HO111.out;subst eo58)|((with_reducible refine jw (f:=58) rfl ?_);refine goesL_ (some 16) rfl rfl Try.func58 (by kernel_rfl) rfl #[.int .i64 (wrap64 (1 + t106)),.slice Ao58 t109.length co58] rfl (by(try simp only[jq0,jq1,jq2]);first|done|rfl|(simp only[jq3,jq4];rfl)) ?_;(with_reducible refine(qkv.calls k (wrap64 (1 + t106)) _ _ t109 t114 t115 t118 t119 _ ?side1 ?side2 A5.out).mono ?_);(case side1=>solve_by_elim only[(Kd.N_reads' HO111.out).2.2,Kd.C_alloc,Kd.C_drewN,Kd.C_drew]);(case side2=>exact(Kd.N_reads' HO111.out).2.1);rintro e w59 ⟨v116,rfl,ho0,hb⟩;refine⟨_,rfl,?_⟩;replace HO111:=U.mk (Kd.N_elder' (by solve_by_elim only[HO111.out,Kd.kv,Kd.kk,Kd.kw]) (Kd.R_base ho0) hb);have HO117:=U.mk (Kd.R_lower ho0 (zj (by solve_by_elim (maxDepth:=20) only[HB.out,G,J,qq,qk,(wj.ge HI105.out),qk,GE101.out])));replace BK101:=U.mk (vx (g:=gb101) (o:=.cells #[.int .i64 0,.slice none 0 0,.int .i64 0,.int .i64 0] 61 (0,0)) (by solve_by_elim only[BK101.out,qw,qx,qv]) hb);replace HB:=U.mk (zz (by solve_by_elim (maxDepth:=20) only[HB.out,G,J,qq,qk,(wj.ge HI105.out),qk,GE101.out]) hb);replace HI105:=U.mk (wj.below (by solve_by_elim (maxDepth:=20) only[HI105.out,wj.alloc,wj.drewN,wj.drew,wj.set_1,wj.set_2,wj.far,NB105_101.out]) hb);(try clear hb ho0))|((with_reducible refine gate_dst (N:=6) rfl ?_);refine box_event ?hg (N:=6) ?hd (cs:=#[.int .i64 0,.slice none 0 0,.int .i64 0,.int .i64 0]) (t:=61) ?hr ?_;(case hd=>rfl);(case hg=>rfl);(case hr=>first|(go_simp;done)|(go_simp;rfl));intro gb120 hg w60 hbox hb;replace HO111:=U.mk (Kd.N_below (Kd.N_elderB (by solve_by_elim only[HO111.out,Kd.kv,Kd.kk,Kd.kw]) gb120 (Nat.le_of_eq hg.symm)) hb);replace HO117:=U.mk (Kd.R_below (by solve_by_elim only[HO117.out,Kd.zv,Kd.zk,Kd.zw]) hb);have BK120:=U.mk (hbox);have GW120:=U.mk ((by rw[hg];exact(zj (by solve_by_elim (maxDepth:=20) only[HB.out,G,J,qq,qk,(wj.ge HI105.out),qk,GE101.out])):w.heap.size≤gb120));have GE120:=U.mk ((by rw[hg];exact(zj (by solve_by_elim (maxDepth:=20) only[HB.out,G,J,qq,qk,(wj.ge HI105.out),qk,GE101.out])):w.heap.size≤gb120));replace HB:=U.mk (zz (by solve_by_elim (maxDepth:=20) only[HB.out,G,J,qq,qk,(wj.ge HI105.out),qk,GE101.out]) hb);have NB101_120:=U.mk ((by rw[hg];exact Nat.ne_of_lt (blk_lt (g:=gb101) (o:=.cells #[.int .i64 0,.slice none 0 0,.int .i64 0,.int .i64 0] 61 (0,0)) (by solve_by_elim only[BK101.out,qw,qx,qv])):gb101≠gb120));have NB120_101:=U.mk ((by rw[hg];exact Nat.ne_of_gt (blk_lt (g:=gb101) (o:=.cells #[.int .i64 0,.slice none 0 0,.int .i64 0,.int .i64 0] 61 (0,0)) (by solve_by_elim only[BK101.out,qw,qx,qv])):gb120≠gb101));replace BK101:=U.mk (vx (g:=gb101) (o:=.cells #[.int .i64 0,.slice none 0 0,.int .i64 0,.int .i64 0] 61 (0,0)) (by solve_by_elim only[BK101.out,qw,qx,qv]) hb);have NB105_120:=U.mk ((by rw[hg];exact Nat.ne_of_lt (wj.lt (show wj w _ g105 t102 t112 t113 from by repeat(first|(with_reducible first|exact HI105.out|apply wj.alloc|apply wj.drewN|apply wj.drew|apply wj.set_1|apply wj.set_2|refine wj.far ?_ NB105_101.out _)|exact HI105.out))):g105≠gb120));have NB120_105:=U.mk ((by rw[hg];exact Nat.ne_of_gt (wj.lt (show wj w _ g105 t102 t112 t113 from by repeat(first|(with_reducible first|exact HI105.out|apply wj.alloc|apply wj.drewN|apply wj.drew|apply wj.set_1|apply wj.set_2|refine wj.far ?_ NB105_101.out _)|exact HI105.out))):gb120≠g105));replace HI105:=U.mk (wj.below (by solve_by_elim (maxDepth:=20) only[HI105.out,wj.alloc,wj.drewN,wj.drew,wj.set_1,wj.set_2,wj.far,NB105_101.out]) hb);clear hb hbox hg;have hnb61:=NB120_101.out;have hnc61:=NB101_120.out;have hnb62:=NB120_105.out;have hnc62:=NB105_120.out;have hcz63_0:w60.cell? ⟨gb120,0,none⟩ = some (.int .i64 0):=(qj BK120.out 0).trans rfl;have hcz63_1:w60.cell? ⟨gb120,1,none⟩ = some (.slice none 0 0):=(qj BK120.out 1).trans rfl;have hcz63_2:w60.cell? ⟨gb120,2,none⟩ = some (.int .i64 0):=(qj BK120.out 2).trans rfl;have hcz63_3:w60.cell? ⟨gb120,3,none⟩ = some (.int .i64 0):=(qj BK120.out 3).trans rfl;have hfz63_0:=qz BK120.out 0;have hfz63_1:=qz BK120.out 1;have hfz63_2:=qz BK120.out 2;have hfz63_3:=qz BK120.out 3;obtain⟨Ao64,co64,eo64⟩:=Kd.R_slice HO117.out;subst eo64)|((with_reducible refine jw (f:=109) rfl ?_);refine goesL_ (some 18) rfl rfl Try.func109 (by kernel_rfl) rfl #[.pointer (some ⟨g105,0,none⟩),.int .i64 8] rfl (by(try simp only[jq0,jq1,jq2]);first|done|rfl|(simp only[jq3,jq4];rfl)) ?_;(with_reducible refine(qwq.calls g105 t102 t112 t113 8 t121 t122 t123 w _ ?side1 ?side2 A6.out).mono ?_);(case side1=>repeat(first|(with_reducible first|exact HI105.out|apply wj.alloc|apply wj.drewN|apply wj.drew|apply wj.set_1|apply wj.set_2|refine wj.far ?_ NB105_101.out _|refine wj.far ?_ NB105_120.out _)|exact HI105.out));(case side2=>repeat(first|(with_reducible first|exact HB.out|apply G|apply J|apply qq|refine qk ?_ (wj.ge HI105.out)|refine qk ?_ GE101.out|refine qk ?_ GE120.out)|exact HB.out));rintro e w65 ⟨rfl,hi,hb,hk⟩;refine⟨_,rfl,?_⟩;replace BK101:=U.mk (zq.blk hk (g':=gb101) (o:=.cells #[.int .i64 0,.slice none 0 0,.int .i64 0,.int .i64 0] 61 (0,0)) (by(with_reducible repeat(first|refine qw ?_ _|refine qx ?_|refine qv ?_ _));refine blk_far ?_ NB101_120.out _;(with_reducible repeat(first|refine qw ?_ _|refine qx ?_|refine qv ?_ _));refine blk_far ?_ NB101_120.out _;(with_reducible repeat(first|refine qw ?_ _|refine qx ?_|refine qv ?_ _));refine blk_far ?_ NB101_120.out _;(with_reducible repeat(first|refine qw ?_ _|refine qx ?_|refine qv ?_ _));refine blk_far ?_ NB101_120.out _;(with_reducible repeat(first|refine qw ?_ _|refine qx ?_|refine qv ?_ _));exact BK101.out) NB101_105.out (by simp));replace HO111:=U.mk (Kd.N_mono (Kd.N_keep (Kd.N_mono (ok:=fun k_=>(((k_≠gb101∧k_≠g105)∧some k_≠(.slice Ao64 t115.length co64:Value).ownBlock)∧k_≠gb120)) (by(with_reducible repeat(first|apply Kd.kv|apply Kd.kk|apply Kd.kw));exact(Kd.N_mono (Kd.N_far (p:=⟨gb120,3,none⟩) (Kd.N_far (p:=⟨gb120,2,none⟩) (Kd.N_far (p:=⟨gb120,1,none⟩) (Kd.N_far (p:=⟨gb120,0,none⟩) (Kd.N_mono HO111.out (fun k_ hk=>(⟨hk,hk.2⟩ : _∧k_≠gb120))) (fun _ hk=>hk.2) (.int .i64 t114)) (fun _ hk=>hk.2) (.slice Ao64 t115.length co64)) (fun _ hk=>hk.2) (.int .i64 t118)) (fun _ hk=>hk.2) (.int .i64 t119)) (fun _ h_=>h_.1))) (fun k_ hk_=>(⟨hk_,hk_.1.1.2⟩ : _∧k_≠g105))) hk (fun _ h=>h.2)) (fun _ h=>h.1));replace HO117:=U.mk (Kd.R_mono (Kd.R_keep (wj.apart (show wj w _ g105 t102 t112 t113 from by repeat(first|(with_reducible first|exact HI105.out|apply wj.alloc|apply wj.drewN|apply wj.drew|apply wj.set_1|apply wj.set_2|refine wj.far ?_ NB105_101.out _|refine wj.far ?_ NB105_120.out _)|exact HI105.out)) (by(with_reducible repeat(first|apply Kd.zv|apply Kd.zk|apply Kd.zw));exact(Kd.R_mono (Kd.R_far (p:=⟨gb120,3,none⟩) (Kd.R_far (p:=⟨gb120,2,none⟩) (Kd.R_far (p:=⟨gb120,1,none⟩) (Kd.R_far (p:=⟨gb120,0,none⟩) (Kd.R_types HO117.out BK120.out (by decide)) (fun _ hk=>hk.2) (.int .i64 t114)) (fun _ hk=>hk.2) (.slice Ao64 t115.length co64)) (fun _ hk=>hk.2) (.int .i64 t118)) (fun _ hk=>hk.2) (.int .i64 t119)) (fun _ h_=>h_.1))) (by decide)) hk (fun _ h=>h.2)) (fun _ h=>h.1));replace BK120:=U.mk (zq.blk hk (g':=gb120) (o:=.cells #[.int .i64 t114,.slice Ao64 t115.length co64,.int .i64 t118,.int .i64 t119] 61 (0,0)) (by(with_reducible repeat(first|refine qw ?_ _|refine qx ?_|refine qv ?_ _));refine blk_put (cs:=#[.int .i64 t114,.slice Ao64 t115.length co64,.int .i64 t118,.int .i64 0]) ?_ 3 _ rfl;(with_reducible repeat(first|refine qw ?_ _|refine qx ?_|refine qv ?_ _));refine blk_put (cs:=#[.int .i64 t114,.slice Ao64 t115.length co64,.int .i64 0,.int .i64 0]) ?_ 2 _ rfl;(with_reducible repeat(first|refine qw ?_ _|refine qx ?_|refine qv ?_ _));refine blk_put (cs:=#[.int .i64 t114,.slice none 0 0,.int .i64 0,.int .i64 0]) ?_ 1 _ rfl;(with_reducible repeat(first|refine qw ?_ _|refine qx ?_|refine qv ?_ _));refine blk_put (cs:=#[.int .i64 0,.slice none 0 0,.int .i64 0,.int .i64 0]) ?_ 0 _ rfl;(with_reducible repeat(first|refine qw ?_ _|refine qx ?_|refine qv ?_ _));exact BK120.out) NB120_105.out (by simp));replace HB:=U.mk (hb);replace HI105:=U.mk (hi);(try clear hb hk hi);have hcz66_0:w65.cell? ⟨gb120,0,none⟩ = some (.int .i64 t114):=(qj BK120.out 0).trans rfl;have hcz66_1:w65.cell? ⟨gb120,1,none⟩ = some (.slice Ao64 t115.length co64):=(qj BK120.out 1).trans rfl;have hcz66_2:w65.cell? ⟨gb120,2,none⟩ = some (.int .i64 t118):=(qj BK120.out 2).trans rfl;have hcz66_3:w65.cell? ⟨gb120,3,none⟩ = some (.int .i64 t119):=(qj BK120.out 3).trans rfl;have hfz66_0:=qz BK120.out 0;have hfz66_1:=qz BK120.out 1;have hfz66_2:=qz BK120.out 2;have hfz66_3:=qz BK120.out 3))
    replace HO111:=U.mk (Kd.kw HO111.out)
    replace HO117:=U.mk (Kd.zw HO117.out)
    replace BK101:=U.mk (qx BK101.out)
    replace BK120:=U.mk (qx BK120.out)
    replace HI105:=U.mk (wj.drew HI105.out)
    replace HB:=U.mk (qq HB.out)
    refine start_ (n:=5) (S:=fun w'=>w'.cell? ⟨gb120,0,none⟩ = some (.int .i64 t114)∧w'.cell? ⟨gb120,1,none⟩ = some (.slice Ao64 t115.length co64)∧w'.cell? ⟨gb120,2,none⟩ = some (.int .i64 t118)∧w'.cell? ⟨gb120,3,none⟩ = some (.int .i64 t119)) (ds:=[]) #[Y,Y,Y,Y,Y] (by kernel_rfl) rfl rfl ⟨(qj BK120.out 0).trans rfl,(qj BK120.out 1).trans rfl,(qj BK120.out 2).trans rfl,(qj BK120.out 3).trans rfl⟩ (fun hHeld=>?_)
    generalize w65.drew=w67 at HO111 HO117 BK101 BK120 HI105 HB hHeld ⊢
    refine pure_ (i:=0) (N:=some 44) (v:=?_) (a':=?_) #[Z,Y,Y,Y,Y] rfl rfl (by kernel_rfl) (fun _ _ _ h=>h) (Or.inl ⟨by rfl,?_⟩) ?_ ?_
    rotate_left
    ·intro w'
     go_simp
     with_reducible rfl
    rotate_left
    ·simp only[Act.put,jq5,jq6,jq7,i64_w,i32_w]
     rfl
    refine take_ (i:=2) (N:=some 46) (v:=?_) (a':=?_) #[Z,Y,Z,Y,Y] rfl rfl (by kernel_rfl) (fun _ _ _ h=>h) (Or.inl ⟨by rfl,?_⟩) hHeld ?_ ?_
    rotate_left
    ·rintro w' ⟨s0,s1,s2,s3⟩
     go_simp
     with_reducible rfl
    rotate_left
    ·simp only[Act.put,jq5,jq6,jq7,i64_w,i32_w]
     rfl
    refine one_ (i:=1) (N:=some 45) #[Z,Z,Z,Y,Y] rfl rfl (by kernel_rfl) (by decide) (fun K hK=>?_)
    refine goes_ Try.func66 (by kernel_rfl) rfl #[.int .i64 (wrap64 (1 + t106))] (by rfl) rfl rfl (by(try simp only[jq0,jq1,jq2]);first|done|rfl|(simp only[jq3,jq4];rfl)) ?_
    with_reducible refine(qkj.calls k (wrap64 (1 + t106)) t128 _ A53.out).mono ?_
    rintro e w' ⟨rfl,⟨nd,rfl⟩⟩
    refine⟨_,rfl,?_⟩
    refine hK.out _ _ ⟨(qj BK120.out 0).trans rfl,(qj BK120.out 1).trans rfl,(qj BK120.out 2).trans rfl,(qj BK120.out 3).trans rfl⟩ (fun hHeld=>?_)
    clear hK K
    refine norm_ (a':=?_) ?_ ?_
    rotate_left
    ·show Act.put _ (some 45) _=_
     simp only[Act.put,jq5,jq6,jq7,i64_w,i32_w]
     rfl
    refine pure_ (i:=3) (N:=some 2) (v:=?_) (a':=?_) #[Z,Z,Z,Z,Y] rfl rfl (by kernel_rfl) (fun _ _ _ h=>h) (Or.inl ⟨by rfl,?_⟩) ?_ ?_
    rotate_left
    ·intro w'
     go_simp
     with_reducible rfl
    rotate_left
    ·simp only[Act.put,jq5,jq6,jq7,i64_w,i32_w]
     rfl
    refine one_ (i:=4) (N:=none) #[Z,Z,Z,Z,Z] rfl rfl (by kernel_rfl) (by decide) (fun K hK=>?_)
    have hs68:w67.cell? ⟨gb101,0,none⟩ = some (.int .i64 0):=(qj BK101.out 0).trans rfl
    have hfs68:=qz BK101.out 0
    have hns68_1:=NB120_101.out
    have hms68_1:=NB101_120.out
    have hs69:w67.cell? ⟨gb101,1,none⟩ = some (.slice none 0 0):=(qj BK101.out 1).trans rfl
    have hfs69:=qz BK101.out 1
    have hns69_1:=NB120_101.out
    have hms69_1:=NB101_120.out
    have hs70:w67.cell? ⟨gb101,2,none⟩ = some (.int .i64 0):=(qj BK101.out 2).trans rfl
    have hfs70:=qz BK101.out 2
    have hns70_1:=NB120_101.out
    have hms70_1:=NB101_120.out
    have hs71:w67.cell? ⟨gb101,3,none⟩ = some (.int .i64 0):=(qj BK101.out 3).trans rfl
    have hfs71:=qz BK101.out 3
    have hns71_1:=NB120_101.out
    have hms71_1:=NB101_120.out
    refine skip_ (w1:=?_) (by rfl) rfl ?_ ?_
    rotate_left
    ·go_simp
     rfl
    refine hK.out _ _ ⟨((cell_far (p:=⟨gb101,_,none⟩) NB120_101.out _).trans (((cell_far (p:=⟨gb101,_,none⟩) NB120_101.out _).trans (((cell_far (p:=⟨gb101,_,none⟩) NB120_101.out _).trans (((cell_far (p:=⟨gb101,_,none⟩) NB120_101.out _).trans (hHeld.1)))))))),((cell_far (p:=⟨gb101,_,none⟩) NB120_101.out _).trans (((cell_far (p:=⟨gb101,_,none⟩) NB120_101.out _).trans (((cell_far (p:=⟨gb101,_,none⟩) NB120_101.out _).trans (((cell_far (p:=⟨gb101,_,none⟩) NB120_101.out _).trans (hHeld.2.1)))))))),((cell_far (p:=⟨gb101,_,none⟩) NB120_101.out _).trans (((cell_far (p:=⟨gb101,_,none⟩) NB120_101.out _).trans (((cell_far (p:=⟨gb101,_,none⟩) NB120_101.out _).trans (((cell_far (p:=⟨gb101,_,none⟩) NB120_101.out _).trans (hHeld.2.2.1)))))))),((cell_far (p:=⟨gb101,_,none⟩) NB120_101.out _).trans (((cell_far (p:=⟨gb101,_,none⟩) NB120_101.out _).trans (((cell_far (p:=⟨gb101,_,none⟩) NB120_101.out _).trans (((cell_far (p:=⟨gb101,_,none⟩) NB120_101.out _).trans (hHeld.2.2.2))))))))⟩ (fun hHeld=>?_)
    clear hK K
    refine done_ (by kernel_rfl) ?_
    try go_wp2
    refine bodyPost_ret (results_tc rfl _ _ gb101 61 #[.int .i64 t114,.slice Ao64 t115.length co64,.int .i64 t118,.int .i64 t119] (0,0) _ rfl (by(with_reducible repeat(first|refine qw ?_ _|refine qx ?_|refine qv ?_ _));refine blk_put (cs:=#[.int .i64 t114,.slice Ao64 t115.length co64,.int .i64 t118,.int .i64 0]) ?_ 3 _ rfl;(with_reducible repeat(first|refine qw ?_ _|refine qx ?_|refine qv ?_ _));refine blk_put (cs:=#[.int .i64 t114,.slice Ao64 t115.length co64,.int .i64 0,.int .i64 0]) ?_ 2 _ rfl;(with_reducible repeat(first|refine qw ?_ _|refine qx ?_|refine qv ?_ _));refine blk_put (cs:=#[.int .i64 t114,.slice none 0 0,.int .i64 0,.int .i64 0]) ?_ 1 _ rfl;(with_reducible repeat(first|refine qw ?_ _|refine qx ?_|refine qv ?_ _));refine blk_put (cs:=#[.int .i64 0,.slice none 0 0,.int .i64 0,.int .i64 0]) ?_ 0 _ rfl;(with_reducible repeat(first|refine qw ?_ _|refine qx ?_|refine qv ?_ _));exact BK101.out) Try.underlying61 rfl (by kernel_rfl)) rfl ?_
    exact⟨_,by first|rfl|(simp[*,jv,jk] <;> rfl),by(with_reducible repeat(first|apply Kd.zv|apply Kd.zk|apply Kd.zw));exact Kd.R_mono (Kd.R_far (p:=⟨gb101,3,none⟩) (Kd.R_far (p:=⟨gb101,2,none⟩) (Kd.R_far (p:=⟨gb101,1,none⟩) (Kd.R_far (p:=⟨gb101,0,none⟩) (Kd.R_types HO117.out BK101.out (by decide)) (fun _ hk=>hk.2) (.int .i64 t114)) (fun _ hk=>hk.2) (.slice Ao64 t115.length co64)) (fun _ hk=>hk.2) (.int .i64 t118)) (fun _ hk=>hk.2) (.int .i64 t119)) (fun _ hk=>trivial),by repeat(first|(with_reducible first|exact HB.out|apply G|apply J|apply qq|refine qk ?_ (wj.ge HI105.out)|refine qk ?_ GE101.out|refine qk ?_ GE120.out)|exact HB.out)⟩
  ·rw[if_neg c28] at H
   have c28b0:(t121 == 1)=false:=beq_eq_false_iff_ne.mpr c28
   have c28b1:(t121 != 1)=true:=bne_iff_ne.mpr c28
   by_cases c72:t121=2
   ·rw[if_pos c72] at H
    have c72b0:(t121 == 2)=true:=beq_iff_eq.mpr c72
    have c72b1:(t121 != 2)=false:=bne_eq_false_iff_eq.mpr c72
    clear c72
    replace H:=jq8.mp H
    obtain⟨t129,A730,H⟩:=H
    try dsimp only at H
    have A73:=U.mk A730
    clear A730
    simp only[Option.some.injEq,Prod.mk.injEq] at H
    obtain⟨rfl,rfl,rfl,rfl,rfl⟩:=H
    go_enter Try.func65,Try.ntmps65
    try go_wp2_with (first|((with_reducible refine gate_dst (N:=3) rfl ?_);refine box_event ?hg (N:=3) ?hd (cs:=#[.int .i64 0,.slice none 0 0,.int .i64 0,.int .i64 0]) (t:=61) ?hr ?_;(case hd=>rfl);(case hg=>rfl);(case hr=>first|(go_simp;done)|(go_simp;rfl));intro gb101 hg w74 hbox hb;have BK101:=U.mk (hbox);have GW101:=U.mk ((by rw[hg];exact(zj (by solve_by_elim only[HB.out,G,J,qq])):w.heap.size≤gb101));have GE101:=U.mk ((by rw[hg];exact(zj (by solve_by_elim only[HB.out,G,J,qq])):w.heap.size≤gb101));replace HB:=U.mk (zz (by solve_by_elim only[HB.out,G,J,qq]) hb);clear hb hbox hg)|((with_reducible refine gate_box (t:=107) rfl ?_);refine boxGoesL_ (some 9) rfl rfl (t:=107) (cs:=#[.slice A0 l0.length c0,.int .i64 0,.int .u64 0]) (by first|(go_simp;done)|(go_simp;rfl)) ?_;(with_reducible refine(newCur.calls _ _ l0 0 0 t102 t103 t104 w _ ?side1 ?side2 ?side3 A2.out).mono ?_);(case side1=>repeat(first|(with_reducible first|exact HB.out|apply G|apply J|apply qq|refine qk ?_ GE101.out)|exact HB.out));(case side2=>exact HR0.out);(case side3=>exact HC0.out);rintro e w75 ⟨g105,rfl,hi,hb,hb2⟩;refine⟨_,rfl,?_⟩;replace HB:=U.mk (hb);have HI105:=U.mk (hi);have NB105_101:=U.mk (wj.ne_blk hi (vx (g:=gb101) (o:=.cells #[.int .i64 0,.slice none 0 0,.int .i64 0,.int .i64 0] 61 (0,0)) (by solve_by_elim only[BK101.out,qw,qx,qv]) hb2) (by decide));have NB101_105:=U.mk (Ne.symm (wj.ne_blk hi (vx (g:=gb101) (o:=.cells #[.int .i64 0,.slice none 0 0,.int .i64 0,.int .i64 0] 61 (0,0)) (by solve_by_elim only[BK101.out,qw,qx,qv]) hb2) (by decide)));replace BK101:=U.mk (vx (g:=gb101) (o:=.cells #[.int .i64 0,.slice none 0 0,.int .i64 0,.int .i64 0] 61 (0,0)) (by solve_by_elim only[BK101.out,qw,qx,qv]) hb2);(try clear hb hb2 hi))|((with_reducible refine jw (f:=109) rfl ?_);refine goesL_ (some 11) rfl rfl Try.func109 (by kernel_rfl) rfl #[.pointer (some ⟨g105,0,none⟩),.int .i64 60000] rfl (by(try simp only[jq0,jq1,jq2]);first|done|rfl|(simp only[jq3,jq4];rfl)) ?_;(with_reducible refine(qwq.calls g105 t102 t103 t104 60000 t106 t107 t108 w _ ?side1 ?side2 A3.out).mono ?_);(case side1=>repeat(first|(with_reducible first|exact HI105.out|apply wj.alloc|apply wj.drewN|apply wj.drew|apply wj.set_1|apply wj.set_2|refine wj.far ?_ NB105_101.out _)|exact HI105.out));(case side2=>repeat(first|(with_reducible first|exact HB.out|apply G|apply J|apply qq|refine qk ?_ (wj.ge HI105.out)|refine qk ?_ GE101.out)|exact HB.out));rintro e w76 ⟨rfl,hi,hb,hk⟩;refine⟨_,rfl,?_⟩;replace BK101:=U.mk (zq.blk hk (g':=gb101) (o:=.cells #[.int .i64 0,.slice none 0 0,.int .i64 0,.int .i64 0] 61 (0,0)) (by solve_by_elim only[BK101.out,qw,qx,qv]) NB101_105.out (by simp));replace HB:=U.mk (hb);replace HI105:=U.mk (hi);(try clear hb hk hi))|((with_reducible refine jw (f:=107) rfl ?_);refine goesL_ (some 15) rfl rfl Try.func107 (by kernel_rfl) rfl #[.pointer (some ⟨g105,0,none⟩),.int .i64 8] rfl (by(try simp only[jq0,jq1,jq2]);first|done|rfl|(simp only[jq3,jq4];rfl)) ?_;(with_reducible refine(qvq.calls k g105 t102 t107 t108 8 t109 t112 t113 w _ ?side1 ?side2 A4.out).mono ?_);(case side1=>repeat(first|(with_reducible first|exact HI105.out|apply wj.alloc|apply wj.drewN|apply wj.drew|apply wj.set_1|apply wj.set_2|refine wj.far ?_ NB105_101.out _)|exact HI105.out));(case side2=>repeat(first|(with_reducible first|exact HB.out|apply G|apply J|apply qq|refine qk ?_ (wj.ge HI105.out)|refine qk ?_ GE101.out)|exact HB.out));rintro e w77 ⟨v110,rfl,ho0,hi,hb,hk⟩;refine⟨_,rfl,?_⟩;have HO111:=U.mk (Kd.N_lower (Kd.N_mono (ok':=fun k_=>k_≠gb101∧k_≠g105) ho0 (fun k_ hk_=>⟨(Kd.freshB (g:=gb101) (o:=.cells #[.int .i64 0,.slice none 0 0,.int .i64 0,.int .i64 0] 61 (0,0)) (by solve_by_elim only[BK101.out,qw,qx,qv]) k_ hk_),(wj.fresh (by solve_by_elim (maxDepth:=20) only[HI105.out,wj.alloc,wj.drewN,wj.drew,wj.set_1,wj.set_2,wj.far,NB105_101.out]) k_ hk_)⟩)) (zj (by solve_by_elim (maxDepth:=20) only[HB.out,G,J,qq,qk,(wj.ge HI105.out),qk,GE101.out])));replace BK101:=U.mk (zq.blk hk (g':=gb101) (o:=.cells #[.int .i64 0,.slice none 0 0,.int .i64 0,.int .i64 0] 61 (0,0)) (by solve_by_elim only[BK101.out,qw,qx,qv]) NB101_105.out (by simp));replace HB:=U.mk (hb);replace HI105:=U.mk (hi);(try clear hb hk hi ho0);obtain⟨Ao78,co78,eo78⟩:=Kd.N_slice HO111.out;subst eo78)|((with_reducible refine jw (f:=58) rfl ?_);refine goesL_ (some 16) rfl rfl Try.func58 (by kernel_rfl) rfl #[.int .i64 (wrap64 (1 + t106)),.slice Ao78 t109.length co78] rfl (by(try simp only[jq0,jq1,jq2]);first|done|rfl|(simp only[jq3,jq4];rfl)) ?_;(with_reducible refine(qkv.calls k (wrap64 (1 + t106)) _ _ t109 t114 t115 t118 t119 _ ?side1 ?side2 A5.out).mono ?_);(case side1=>solve_by_elim only[(Kd.N_reads' HO111.out).2.2,Kd.C_alloc,Kd.C_drewN,Kd.C_drew]);(case side2=>exact(Kd.N_reads' HO111.out).2.1);rintro e w79 ⟨v116,rfl,ho0,hb⟩;refine⟨_,rfl,?_⟩;replace HO111:=U.mk (Kd.N_elder' (by solve_by_elim only[HO111.out,Kd.kv,Kd.kk,Kd.kw]) (Kd.R_base ho0) hb);have HO117:=U.mk (Kd.R_lower ho0 (zj (by solve_by_elim (maxDepth:=20) only[HB.out,G,J,qq,qk,(wj.ge HI105.out),qk,GE101.out])));replace BK101:=U.mk (vx (g:=gb101) (o:=.cells #[.int .i64 0,.slice none 0 0,.int .i64 0,.int .i64 0] 61 (0,0)) (by solve_by_elim only[BK101.out,qw,qx,qv]) hb);replace HB:=U.mk (zz (by solve_by_elim (maxDepth:=20) only[HB.out,G,J,qq,qk,(wj.ge HI105.out),qk,GE101.out]) hb);replace HI105:=U.mk (wj.below (by solve_by_elim (maxDepth:=20) only[HI105.out,wj.alloc,wj.drewN,wj.drew,wj.set_1,wj.set_2,wj.far,NB105_101.out]) hb);(try clear hb ho0))|((with_reducible refine gate_dst (N:=6) rfl ?_);refine box_event ?hg (N:=6) ?hd (cs:=#[.int .i64 0,.slice none 0 0,.int .i64 0,.int .i64 0]) (t:=61) ?hr ?_;(case hd=>rfl);(case hg=>rfl);(case hr=>first|(go_simp;done)|(go_simp;rfl));intro gb120 hg w80 hbox hb;replace HO111:=U.mk (Kd.N_below (Kd.N_elderB (by solve_by_elim only[HO111.out,Kd.kv,Kd.kk,Kd.kw]) gb120 (Nat.le_of_eq hg.symm)) hb);replace HO117:=U.mk (Kd.R_below (by solve_by_elim only[HO117.out,Kd.zv,Kd.zk,Kd.zw]) hb);have BK120:=U.mk (hbox);have GW120:=U.mk ((by rw[hg];exact(zj (by solve_by_elim (maxDepth:=20) only[HB.out,G,J,qq,qk,(wj.ge HI105.out),qk,GE101.out])):w.heap.size≤gb120));have GE120:=U.mk ((by rw[hg];exact(zj (by solve_by_elim (maxDepth:=20) only[HB.out,G,J,qq,qk,(wj.ge HI105.out),qk,GE101.out])):w.heap.size≤gb120));replace HB:=U.mk (zz (by solve_by_elim (maxDepth:=20) only[HB.out,G,J,qq,qk,(wj.ge HI105.out),qk,GE101.out]) hb);have NB101_120:=U.mk ((by rw[hg];exact Nat.ne_of_lt (blk_lt (g:=gb101) (o:=.cells #[.int .i64 0,.slice none 0 0,.int .i64 0,.int .i64 0] 61 (0,0)) (by solve_by_elim only[BK101.out,qw,qx,qv])):gb101≠gb120));have NB120_101:=U.mk ((by rw[hg];exact Nat.ne_of_gt (blk_lt (g:=gb101) (o:=.cells #[.int .i64 0,.slice none 0 0,.int .i64 0,.int .i64 0] 61 (0,0)) (by solve_by_elim only[BK101.out,qw,qx,qv])):gb120≠gb101));replace BK101:=U.mk (vx (g:=gb101) (o:=.cells #[.int .i64 0,.slice none 0 0,.int .i64 0,.int .i64 0] 61 (0,0)) (by solve_by_elim only[BK101.out,qw,qx,qv]) hb);have NB105_120:=U.mk ((by rw[hg];exact Nat.ne_of_lt (wj.lt (show wj w _ g105 t102 t112 t113 from by repeat(first|(with_reducible first|exact HI105.out|apply wj.alloc|apply wj.drewN|apply wj.drew|apply wj.set_1|apply wj.set_2|refine wj.far ?_ NB105_101.out _)|exact HI105.out))):g105≠gb120));have NB120_105:=U.mk ((by rw[hg];exact Nat.ne_of_gt (wj.lt (show wj w _ g105 t102 t112 t113 from by repeat(first|(with_reducible first|exact HI105.out|apply wj.alloc|apply wj.drewN|apply wj.drew|apply wj.set_1|apply wj.set_2|refine wj.far ?_ NB105_101.out _)|exact HI105.out))):gb120≠g105));replace HI105:=U.mk (wj.below (by solve_by_elim (maxDepth:=20) only[HI105.out,wj.alloc,wj.drewN,wj.drew,wj.set_1,wj.set_2,wj.far,NB105_101.out]) hb);clear hb hbox hg;have hnb81:=NB120_101.out;have hnc81:=NB101_120.out;have hnb82:=NB120_105.out;have hnc82:=NB105_120.out;have hcz83_0:w80.cell? ⟨gb120,0,none⟩ = some (.int .i64 0):=(qj BK120.out 0).trans rfl;have hcz83_1:w80.cell? ⟨gb120,1,none⟩ = some (.slice none 0 0):=(qj BK120.out 1).trans rfl;have hcz83_2:w80.cell? ⟨gb120,2,none⟩ = some (.int .i64 0):=(qj BK120.out 2).trans rfl;have hcz83_3:w80.cell? ⟨gb120,3,none⟩ = some (.int .i64 0):=(qj BK120.out 3).trans rfl;have hfz83_0:=qz BK120.out 0;have hfz83_1:=qz BK120.out 1;have hfz83_2:=qz BK120.out 2;have hfz83_3:=qz BK120.out 3;obtain⟨Ao84,co84,eo84⟩:=Kd.R_slice HO117.out;subst eo84)|((with_reducible refine jw (f:=109) rfl ?_);refine goesL_ (some 18) rfl rfl Try.func109 (by kernel_rfl) rfl #[.pointer (some ⟨g105,0,none⟩),.int .i64 8] rfl (by(try simp only[jq0,jq1,jq2]);first|done|rfl|(simp only[jq3,jq4];rfl)) ?_;(with_reducible refine(qwq.calls g105 t102 t112 t113 8 t121 t122 t123 w _ ?side1 ?side2 A6.out).mono ?_);(case side1=>repeat(first|(with_reducible first|exact HI105.out|apply wj.alloc|apply wj.drewN|apply wj.drew|apply wj.set_1|apply wj.set_2|refine wj.far ?_ NB105_101.out _|refine wj.far ?_ NB105_120.out _)|exact HI105.out));(case side2=>repeat(first|(with_reducible first|exact HB.out|apply G|apply J|apply qq|refine qk ?_ (wj.ge HI105.out)|refine qk ?_ GE101.out|refine qk ?_ GE120.out)|exact HB.out));rintro e w85 ⟨rfl,hi,hb,hk⟩;refine⟨_,rfl,?_⟩;replace BK101:=U.mk (zq.blk hk (g':=gb101) (o:=.cells #[.int .i64 0,.slice none 0 0,.int .i64 0,.int .i64 0] 61 (0,0)) (by(with_reducible repeat(first|refine qw ?_ _|refine qx ?_|refine qv ?_ _));refine blk_far ?_ NB101_120.out _;(with_reducible repeat(first|refine qw ?_ _|refine qx ?_|refine qv ?_ _));refine blk_far ?_ NB101_120.out _;(with_reducible repeat(first|refine qw ?_ _|refine qx ?_|refine qv ?_ _));refine blk_far ?_ NB101_120.out _;(with_reducible repeat(first|refine qw ?_ _|refine qx ?_|refine qv ?_ _));refine blk_far ?_ NB101_120.out _;(with_reducible repeat(first|refine qw ?_ _|refine qx ?_|refine qv ?_ _));exact BK101.out) NB101_105.out (by simp));replace HO111:=U.mk (Kd.N_mono (Kd.N_keep (Kd.N_mono (ok:=fun k_=>(((k_≠gb101∧k_≠g105)∧some k_≠(.slice Ao84 t115.length co84:Value).ownBlock)∧k_≠gb120)) (by(with_reducible repeat(first|apply Kd.kv|apply Kd.kk|apply Kd.kw));exact(Kd.N_mono (Kd.N_far (p:=⟨gb120,3,none⟩) (Kd.N_far (p:=⟨gb120,2,none⟩) (Kd.N_far (p:=⟨gb120,1,none⟩) (Kd.N_far (p:=⟨gb120,0,none⟩) (Kd.N_mono HO111.out (fun k_ hk=>(⟨hk,hk.2⟩ : _∧k_≠gb120))) (fun _ hk=>hk.2) (.int .i64 t114)) (fun _ hk=>hk.2) (.slice Ao84 t115.length co84)) (fun _ hk=>hk.2) (.int .i64 t118)) (fun _ hk=>hk.2) (.int .i64 t119)) (fun _ h_=>h_.1))) (fun k_ hk_=>(⟨hk_,hk_.1.1.2⟩ : _∧k_≠g105))) hk (fun _ h=>h.2)) (fun _ h=>h.1));replace HO117:=U.mk (Kd.R_mono (Kd.R_keep (wj.apart (show wj w _ g105 t102 t112 t113 from by repeat(first|(with_reducible first|exact HI105.out|apply wj.alloc|apply wj.drewN|apply wj.drew|apply wj.set_1|apply wj.set_2|refine wj.far ?_ NB105_101.out _|refine wj.far ?_ NB105_120.out _)|exact HI105.out)) (by(with_reducible repeat(first|apply Kd.zv|apply Kd.zk|apply Kd.zw));exact(Kd.R_mono (Kd.R_far (p:=⟨gb120,3,none⟩) (Kd.R_far (p:=⟨gb120,2,none⟩) (Kd.R_far (p:=⟨gb120,1,none⟩) (Kd.R_far (p:=⟨gb120,0,none⟩) (Kd.R_types HO117.out BK120.out (by decide)) (fun _ hk=>hk.2) (.int .i64 t114)) (fun _ hk=>hk.2) (.slice Ao84 t115.length co84)) (fun _ hk=>hk.2) (.int .i64 t118)) (fun _ hk=>hk.2) (.int .i64 t119)) (fun _ h_=>h_.1))) (by decide)) hk (fun _ h=>h.2)) (fun _ h=>h.1));replace BK120:=U.mk (zq.blk hk (g':=gb120) (o:=.cells #[.int .i64 t114,.slice Ao84 t115.length co84,.int .i64 t118,.int .i64 t119] 61 (0,0)) (by(with_reducible repeat(first|refine qw ?_ _|refine qx ?_|refine qv ?_ _));refine blk_put (cs:=#[.int .i64 t114,.slice Ao84 t115.length co84,.int .i64 t118,.int .i64 0]) ?_ 3 _ rfl;(with_reducible repeat(first|refine qw ?_ _|refine qx ?_|refine qv ?_ _));refine blk_put (cs:=#[.int .i64 t114,.slice Ao84 t115.length co84,.int .i64 0,.int .i64 0]) ?_ 2 _ rfl;(with_reducible repeat(first|refine qw ?_ _|refine qx ?_|refine qv ?_ _));refine blk_put (cs:=#[.int .i64 t114,.slice none 0 0,.int .i64 0,.int .i64 0]) ?_ 1 _ rfl;(with_reducible repeat(first|refine qw ?_ _|refine qx ?_|refine qv ?_ _));refine blk_put (cs:=#[.int .i64 0,.slice none 0 0,.int .i64 0,.int .i64 0]) ?_ 0 _ rfl;(with_reducible repeat(first|refine qw ?_ _|refine qx ?_|refine qv ?_ _));exact BK120.out) NB120_105.out (by simp));replace HB:=U.mk (hb);replace HI105:=U.mk (hi);(try clear hb hk hi);have hcz86_0:w85.cell? ⟨gb120,0,none⟩ = some (.int .i64 t114):=(qj BK120.out 0).trans rfl;have hcz86_1:w85.cell? ⟨gb120,1,none⟩ = some (.slice Ao84 t115.length co84):=(qj BK120.out 1).trans rfl;have hcz86_2:w85.cell? ⟨gb120,2,none⟩ = some (.int .i64 t118):=(qj BK120.out 2).trans rfl;have hcz86_3:w85.cell? ⟨gb120,3,none⟩ = some (.int .i64 t119):=(qj BK120.out 3).trans rfl;have hfz86_0:=qz BK120.out 0;have hfz86_1:=qz BK120.out 1;have hfz86_2:=qz BK120.out 2;have hfz86_3:=qz BK120.out 3))
    have n0_:U (Kd.N k27 27 (w85.setCell ⟨gb120,1,none⟩ (.slice none 0 0)) w.heap.size (fun k_=>some k_≠(.slice Ao84 t115.length co84:Value).ownBlock∧k_≠gb101∧k_≠g105∧k_≠gb120) (.slice Ao78 t109.length co78) t109):=⟨by(with_reducible repeat(first|apply Kd.kv|apply Kd.kk|apply Kd.kw));exact Kd.N_mono (Kd.N_far (p:=⟨gb120,1,none⟩) (Kd.N_mono HO111.out (fun k_ hk=>(⟨hk,hk.2⟩ : _∧k_≠gb120))) (fun _ hk=>hk.2) (.slice none 0 0)) (fun _ hk=>⟨hk.1.1.2,⟨hk.1.1.1.1,⟨hk.1.1.1.2,hk.1.2⟩⟩⟩)⟩
    have n1_:U (Kd.R (Kd.int .u8) 5 (w85.setCell ⟨gb120,1,none⟩ (.slice none 0 0)) w.heap.size (fun _=>True) (.slice Ao84 t115.length co84) t115):=⟨by(with_reducible repeat(first|apply Kd.zv|apply Kd.zk|apply Kd.zw));exact Kd.R_mono (Kd.R_far (p:=⟨gb120,1,none⟩) (Kd.R_types HO117.out BK120.out (by decide)) (fun _ hk=>hk.2) (.slice none 0 0)) (fun _ hk=>trivial)⟩
    have n2_:U ((w85.setCell ⟨gb120,1,none⟩ (.slice none 0 0)).heap[gb101]? = some (.cells #[.int .i64 0,.slice none 0 0,.int .i64 0,.int .i64 0] 61 (0,0))):=⟨by(with_reducible repeat(first|refine qw ?_ _|refine qx ?_|refine qv ?_ _));refine blk_far ?_ NB101_120.out _;(with_reducible repeat(first|refine qw ?_ _|refine qx ?_|refine qv ?_ _));exact BK101.out⟩
    have n3_:U ((w85.setCell ⟨gb120,1,none⟩ (.slice none 0 0)).heap[gb120]? = some (.cells #[.int .i64 t114,.slice none 0 0,.int .i64 t118,.int .i64 t119] 61 (0,0))):=⟨by(with_reducible repeat(first|refine qw ?_ _|refine qx ?_|refine qv ?_ _));refine blk_put (cs:=#[.int .i64 t114,.slice Ao84 t115.length co84,.int .i64 t118,.int .i64 t119]) ?_ 1 _ rfl;(with_reducible repeat(first|refine qw ?_ _|refine qx ?_|refine qv ?_ _));exact BK120.out⟩
    have n4_:U (wj w (w85.setCell ⟨gb120,1,none⟩ (.slice none 0 0)) g105 t102 t122 t123):=⟨by repeat(first|(with_reducible first|exact HI105.out|apply wj.alloc|apply wj.drewN|apply wj.drew|apply wj.set_1|apply wj.set_2|refine wj.far ?_ NB105_101.out _|refine wj.far ?_ NB105_120.out _)|exact HI105.out)⟩
    have n5_:U (Below w.heap.size w (w85.setCell ⟨gb120,1,none⟩ (.slice none 0 0))):=⟨by repeat(first|(with_reducible first|exact HB.out|apply G|apply J|apply qq|refine qk ?_ (wj.ge HI105.out)|refine qk ?_ GE101.out|refine qk ?_ GE120.out)|exact HB.out)⟩
    (try clear HO111)
    (try clear HO117)
    (try clear BK101)
    (try clear BK120)
    (try clear HI105)
    (try clear HB)
    generalize (w85.setCell ⟨gb120,1,none⟩ (.slice none 0 0))=w87 at n0_ n1_ n2_ n3_ n4_ n5_ ⊢
    have HO111:=n0_
    have HO117:=n1_
    have BK101:=n2_
    have BK120:=n3_
    have HI105:=n4_
    have HB:=n5_
    clear n0_ n1_ n2_ n3_ n4_ n5_
    replace HO111:=U.mk (Kd.kw HO111.out)
    replace HO117:=U.mk (Kd.zw HO117.out)
    replace BK101:=U.mk (qx BK101.out)
    replace BK120:=U.mk (qx BK120.out)
    replace HI105:=U.mk (wj.drew HI105.out)
    replace HB:=U.mk (qq HB.out)
    refine start_ (n:=5) (S:=fun w'=>w'.cell? ⟨gb120,0,none⟩ = some (.int .i64 t114)∧w'.cell? ⟨gb120,1,none⟩ = some (.slice none 0 0)∧w'.cell? ⟨gb120,2,none⟩ = some (.int .i64 t118)∧w'.cell? ⟨gb120,3,none⟩ = some (.int .i64 t119)) (ds:=[]) #[Y,Y,Y,Y,Y] (by kernel_rfl) rfl rfl ⟨(qj BK120.out 0).trans rfl,(qj BK120.out 1).trans rfl,(qj BK120.out 2).trans rfl,(qj BK120.out 3).trans rfl⟩ (fun hHeld=>?_)
    generalize w87.drew=w88 at HO111 HO117 BK101 BK120 HI105 HB hHeld ⊢
    refine pure_ (i:=0) (N:=some 44) (v:=?_) (a':=?_) #[Z,Y,Y,Y,Y] rfl rfl (by kernel_rfl) (fun _ _ _ h=>h) (Or.inl ⟨by rfl,?_⟩) ?_ ?_
    rotate_left
    ·intro w'
     go_simp
     with_reducible rfl
    rotate_left
    ·simp only[Act.put,jq5,jq6,jq7,i64_w,i32_w]
     rfl
    refine take_ (i:=2) (N:=some 46) (v:=?_) (a':=?_) #[Z,Y,Z,Y,Y] rfl rfl (by kernel_rfl) (fun _ _ _ h=>h) (Or.inl ⟨by rfl,?_⟩) hHeld ?_ ?_
    rotate_left
    ·rintro w' ⟨s0,s1,s2,s3⟩
     go_simp
     with_reducible rfl
    rotate_left
    ·simp only[Act.put,jq5,jq6,jq7,i64_w,i32_w]
     rfl
    refine one_ (i:=1) (N:=some 45) #[Z,Z,Z,Y,Y] rfl rfl (by kernel_rfl) (by decide) (fun K hK=>?_)
    refine goes_ Try.func66 (by kernel_rfl) rfl #[.int .i64 (wrap64 (1 + t106))] (by rfl) rfl rfl (by(try simp only[jq0,jq1,jq2]);first|done|rfl|(simp only[jq3,jq4];rfl)) ?_
    with_reducible refine(qkj.calls k (wrap64 (1 + t106)) t129 _ A73.out).mono ?_
    rintro e w' ⟨rfl,⟨nd,rfl⟩⟩
    refine⟨_,rfl,?_⟩
    refine hK.out _ _ ⟨(qj BK120.out 0).trans rfl,(qj BK120.out 1).trans rfl,(qj BK120.out 2).trans rfl,(qj BK120.out 3).trans rfl⟩ (fun hHeld=>?_)
    clear hK K
    refine norm_ (a':=?_) ?_ ?_
    rotate_left
    ·show Act.put _ (some 45) _=_
     simp only[Act.put,jq5,jq6,jq7,i64_w,i32_w]
     rfl
    refine pure_ (i:=3) (N:=some 2) (v:=?_) (a':=?_) #[Z,Z,Z,Z,Y] rfl rfl (by kernel_rfl) (fun _ _ _ h=>h) (Or.inl ⟨by rfl,?_⟩) ?_ ?_
    rotate_left
    ·intro w'
     go_simp
     with_reducible rfl
    rotate_left
    ·simp only[Act.put,jq5,jq6,jq7,i64_w,i32_w]
     rfl
    refine one_ (i:=4) (N:=none) #[Z,Z,Z,Z,Z] rfl rfl (by kernel_rfl) (by decide) (fun K hK=>?_)
    have hs89:w88.cell? ⟨gb101,0,none⟩ = some (.int .i64 0):=(qj BK101.out 0).trans rfl
    have hfs89:=qz BK101.out 0
    have hns89_1:=NB120_101.out
    have hms89_1:=NB101_120.out
    have hs90:w88.cell? ⟨gb101,1,none⟩ = some (.slice none 0 0):=(qj BK101.out 1).trans rfl
    have hfs90:=qz BK101.out 1
    have hns90_1:=NB120_101.out
    have hms90_1:=NB101_120.out
    have hs91:w88.cell? ⟨gb101,2,none⟩ = some (.int .i64 0):=(qj BK101.out 2).trans rfl
    have hfs91:=qz BK101.out 2
    have hns91_1:=NB120_101.out
    have hms91_1:=NB101_120.out
    have hs92:w88.cell? ⟨gb101,3,none⟩ = some (.int .i64 0):=(qj BK101.out 3).trans rfl
    have hfs92:=qz BK101.out 3
    have hns92_1:=NB120_101.out
    have hms92_1:=NB101_120.out
    refine skip_ (w1:=?_) (by rfl) rfl ?_ ?_
    rotate_left
    ·go_simp
     rfl
    refine hK.out _ _ ⟨((cell_far (p:=⟨gb101,_,none⟩) NB120_101.out _).trans (((cell_far (p:=⟨gb101,_,none⟩) NB120_101.out _).trans (((cell_far (p:=⟨gb101,_,none⟩) NB120_101.out _).trans (((cell_far (p:=⟨gb101,_,none⟩) NB120_101.out _).trans (hHeld.1)))))))),((cell_far (p:=⟨gb101,_,none⟩) NB120_101.out _).trans (((cell_far (p:=⟨gb101,_,none⟩) NB120_101.out _).trans (((cell_far (p:=⟨gb101,_,none⟩) NB120_101.out _).trans (((cell_far (p:=⟨gb101,_,none⟩) NB120_101.out _).trans (hHeld.2.1)))))))),((cell_far (p:=⟨gb101,_,none⟩) NB120_101.out _).trans (((cell_far (p:=⟨gb101,_,none⟩) NB120_101.out _).trans (((cell_far (p:=⟨gb101,_,none⟩) NB120_101.out _).trans (((cell_far (p:=⟨gb101,_,none⟩) NB120_101.out _).trans (hHeld.2.2.1)))))))),((cell_far (p:=⟨gb101,_,none⟩) NB120_101.out _).trans (((cell_far (p:=⟨gb101,_,none⟩) NB120_101.out _).trans (((cell_far (p:=⟨gb101,_,none⟩) NB120_101.out _).trans (((cell_far (p:=⟨gb101,_,none⟩) NB120_101.out _).trans (hHeld.2.2.2))))))))⟩ (fun hHeld=>?_)
    clear hK K
    refine done_ (by kernel_rfl) ?_
    try go_wp2
    refine bodyPost_ret (results_tc rfl _ _ gb101 61 #[.int .i64 t114,.slice none 0 0,.int .i64 t118,.int .i64 t119] (0,0) _ rfl (by(with_reducible repeat(first|refine qw ?_ _|refine qx ?_|refine qv ?_ _));refine blk_put (cs:=#[.int .i64 t114,.slice none 0 0,.int .i64 t118,.int .i64 0]) ?_ 3 _ rfl;(with_reducible repeat(first|refine qw ?_ _|refine qx ?_|refine qv ?_ _));refine blk_put (cs:=#[.int .i64 t114,.slice none 0 0,.int .i64 0,.int .i64 0]) ?_ 2 _ rfl;(with_reducible repeat(first|refine qw ?_ _|refine qx ?_|refine qv ?_ _));refine blk_put (cs:=#[.int .i64 t114,.slice none 0 0,.int .i64 0,.int .i64 0]) ?_ 1 _ rfl;(with_reducible repeat(first|refine qw ?_ _|refine qx ?_|refine qv ?_ _));refine blk_put (cs:=#[.int .i64 0,.slice none 0 0,.int .i64 0,.int .i64 0]) ?_ 0 _ rfl;(with_reducible repeat(first|refine qw ?_ _|refine qx ?_|refine qv ?_ _));exact BK101.out) Try.underlying61 rfl (by kernel_rfl)) rfl ?_
    exact⟨_,by first|rfl|(simp[*,jv,jk] <;> rfl),by first|exact Kd.R_nil _ _ _ _ _|exact Kd.N_nil _ _ _ _ _|exact Kd.V_nil _ _ _ _ _|exact Kd.Q_nil _ _ _ _ _|exact Kd.S_nil _ _ _ _ _,by repeat(first|(with_reducible first|exact HB.out|apply G|apply J|apply qq|refine qk ?_ (wj.ge HI105.out)|refine qk ?_ GE101.out|refine qk ?_ GE120.out)|exact HB.out)⟩
   ·rw[if_neg c72] at H
    have c72b0:(t121 == 2)=false:=beq_eq_false_iff_ne.mpr c72
    have c72b1:(t121 != 2)=true:=bne_iff_ne.mpr c72
    by_cases c93:t121=3
    ·rw[if_pos c93] at H
     have c93b0:(t121 == 3)=true:=beq_iff_eq.mpr c93
     have c93b1:(t121 != 3)=false:=bne_eq_false_iff_eq.mpr c93
     clear c93
     replace H:=jq8.mp H
     obtain⟨t130,A940,H⟩:=H
     try dsimp only at H
     have A94:=U.mk A940
     clear A940
     simp only[Option.some.injEq,Prod.mk.injEq] at H
     obtain⟨rfl,rfl,rfl,rfl,rfl⟩:=H
     go_enter Try.func65,Try.ntmps65
     try go_wp2_with (first|((with_reducible refine gate_dst (N:=3) rfl ?_);refine box_event ?hg (N:=3) ?hd (cs:=#[.int .i64 0,.slice none 0 0,.int .i64 0,.int .i64 0]) (t:=61) ?hr ?_;(case hd=>rfl);(case hg=>rfl);(case hr=>first|(go_simp;done)|(go_simp;rfl));intro gb101 hg w95 hbox hb;have BK101:=U.mk (hbox);have GW101:=U.mk ((by rw[hg];exact(zj (by solve_by_elim only[HB.out,G,J,qq])):w.heap.size≤gb101));have GE101:=U.mk ((by rw[hg];exact(zj (by solve_by_elim only[HB.out,G,J,qq])):w.heap.size≤gb101));replace HB:=U.mk (zz (by solve_by_elim only[HB.out,G,J,qq]) hb);clear hb hbox hg)|((with_reducible refine gate_box (t:=107) rfl ?_);refine boxGoesL_ (some 9) rfl rfl (t:=107) (cs:=#[.slice A0 l0.length c0,.int .i64 0,.int .u64 0]) (by first|(go_simp;done)|(go_simp;rfl)) ?_;(with_reducible refine(newCur.calls _ _ l0 0 0 t102 t103 t104 w _ ?side1 ?side2 ?side3 A2.out).mono ?_);(case side1=>repeat(first|(with_reducible first|exact HB.out|apply G|apply J|apply qq|refine qk ?_ GE101.out)|exact HB.out));(case side2=>exact HR0.out);(case side3=>exact HC0.out);rintro e w96 ⟨g105,rfl,hi,hb,hb2⟩;refine⟨_,rfl,?_⟩;replace HB:=U.mk (hb);have HI105:=U.mk (hi);have NB105_101:=U.mk (wj.ne_blk hi (vx (g:=gb101) (o:=.cells #[.int .i64 0,.slice none 0 0,.int .i64 0,.int .i64 0] 61 (0,0)) (by solve_by_elim only[BK101.out,qw,qx,qv]) hb2) (by decide));have NB101_105:=U.mk (Ne.symm (wj.ne_blk hi (vx (g:=gb101) (o:=.cells #[.int .i64 0,.slice none 0 0,.int .i64 0,.int .i64 0] 61 (0,0)) (by solve_by_elim only[BK101.out,qw,qx,qv]) hb2) (by decide)));replace BK101:=U.mk (vx (g:=gb101) (o:=.cells #[.int .i64 0,.slice none 0 0,.int .i64 0,.int .i64 0] 61 (0,0)) (by solve_by_elim only[BK101.out,qw,qx,qv]) hb2);(try clear hb hb2 hi))|((with_reducible refine jw (f:=109) rfl ?_);refine goesL_ (some 11) rfl rfl Try.func109 (by kernel_rfl) rfl #[.pointer (some ⟨g105,0,none⟩),.int .i64 60000] rfl (by(try simp only[jq0,jq1,jq2]);first|done|rfl|(simp only[jq3,jq4];rfl)) ?_;(with_reducible refine(qwq.calls g105 t102 t103 t104 60000 t106 t107 t108 w _ ?side1 ?side2 A3.out).mono ?_);(case side1=>repeat(first|(with_reducible first|exact HI105.out|apply wj.alloc|apply wj.drewN|apply wj.drew|apply wj.set_1|apply wj.set_2|refine wj.far ?_ NB105_101.out _)|exact HI105.out));(case side2=>repeat(first|(with_reducible first|exact HB.out|apply G|apply J|apply qq|refine qk ?_ (wj.ge HI105.out)|refine qk ?_ GE101.out)|exact HB.out));rintro e w97 ⟨rfl,hi,hb,hk⟩;refine⟨_,rfl,?_⟩;replace BK101:=U.mk (zq.blk hk (g':=gb101) (o:=.cells #[.int .i64 0,.slice none 0 0,.int .i64 0,.int .i64 0] 61 (0,0)) (by solve_by_elim only[BK101.out,qw,qx,qv]) NB101_105.out (by simp));replace HB:=U.mk (hb);replace HI105:=U.mk (hi);(try clear hb hk hi))|((with_reducible refine jw (f:=107) rfl ?_);refine goesL_ (some 15) rfl rfl Try.func107 (by kernel_rfl) rfl #[.pointer (some ⟨g105,0,none⟩),.int .i64 8] rfl (by(try simp only[jq0,jq1,jq2]);first|done|rfl|(simp only[jq3,jq4];rfl)) ?_;(with_reducible refine(qvq.calls k g105 t102 t107 t108 8 t109 t112 t113 w _ ?side1 ?side2 A4.out).mono ?_);(case side1=>repeat(first|(with_reducible first|exact HI105.out|apply wj.alloc|apply wj.drewN|apply wj.drew|apply wj.set_1|apply wj.set_2|refine wj.far ?_ NB105_101.out _)|exact HI105.out));(case side2=>repeat(first|(with_reducible first|exact HB.out|apply G|apply J|apply qq|refine qk ?_ (wj.ge HI105.out)|refine qk ?_ GE101.out)|exact HB.out));rintro e w98 ⟨v110,rfl,ho0,hi,hb,hk⟩;refine⟨_,rfl,?_⟩;have HO111:=U.mk (Kd.N_lower (Kd.N_mono (ok':=fun k_=>k_≠gb101∧k_≠g105) ho0 (fun k_ hk_=>⟨(Kd.freshB (g:=gb101) (o:=.cells #[.int .i64 0,.slice none 0 0,.int .i64 0,.int .i64 0] 61 (0,0)) (by solve_by_elim only[BK101.out,qw,qx,qv]) k_ hk_),(wj.fresh (by solve_by_elim (maxDepth:=20) only[HI105.out,wj.alloc,wj.drewN,wj.drew,wj.set_1,wj.set_2,wj.far,NB105_101.out]) k_ hk_)⟩)) (zj (by solve_by_elim (maxDepth:=20) only[HB.out,G,J,qq,qk,(wj.ge HI105.out),qk,GE101.out])));replace BK101:=U.mk (zq.blk hk (g':=gb101) (o:=.cells #[.int .i64 0,.slice none 0 0,.int .i64 0,.int .i64 0] 61 (0,0)) (by solve_by_elim only[BK101.out,qw,qx,qv]) NB101_105.out (by simp));replace HB:=U.mk (hb);replace HI105:=U.mk (hi);(try clear hb hk hi ho0);obtain⟨Ao99,co99,eo99⟩:=Kd.N_slice HO111.out;subst eo99)|((with_reducible refine jw (f:=58) rfl ?_);refine goesL_ (some 16) rfl rfl Try.func58 (by kernel_rfl) rfl #[.int .i64 (wrap64 (1 + t106)),.slice Ao99 t109.length co99] rfl (by(try simp only[jq0,jq1,jq2]);first|done|rfl|(simp only[jq3,jq4];rfl)) ?_;(with_reducible refine(qkv.calls k (wrap64 (1 + t106)) _ _ t109 t114 t115 t118 t119 _ ?side1 ?side2 A5.out).mono ?_);(case side1=>solve_by_elim only[(Kd.N_reads' HO111.out).2.2,Kd.C_alloc,Kd.C_drewN,Kd.C_drew]);(case side2=>exact(Kd.N_reads' HO111.out).2.1);rintro e w100 ⟨v116,rfl,ho0,hb⟩;refine⟨_,rfl,?_⟩;replace HO111:=U.mk (Kd.N_elder' (by solve_by_elim only[HO111.out,Kd.kv,Kd.kk,Kd.kw]) (Kd.R_base ho0) hb);have HO117:=U.mk (Kd.R_lower ho0 (zj (by solve_by_elim (maxDepth:=20) only[HB.out,G,J,qq,qk,(wj.ge HI105.out),qk,GE101.out])));replace BK101:=U.mk (vx (g:=gb101) (o:=.cells #[.int .i64 0,.slice none 0 0,.int .i64 0,.int .i64 0] 61 (0,0)) (by solve_by_elim only[BK101.out,qw,qx,qv]) hb);replace HB:=U.mk (zz (by solve_by_elim (maxDepth:=20) only[HB.out,G,J,qq,qk,(wj.ge HI105.out),qk,GE101.out]) hb);replace HI105:=U.mk (wj.below (by solve_by_elim (maxDepth:=20) only[HI105.out,wj.alloc,wj.drewN,wj.drew,wj.set_1,wj.set_2,wj.far,NB105_101.out]) hb);(try clear hb ho0))|((with_reducible refine gate_dst (N:=6) rfl ?_);refine box_event ?hg (N:=6) ?hd (cs:=#[.int .i64 0,.slice none 0 0,.int .i64 0,.int .i64 0]) (t:=61) ?hr ?_;(case hd=>rfl);(case hg=>rfl);(case hr=>first|(go_simp;done)|(go_simp;rfl));intro gb120 hg w101 hbox hb;replace HO111:=U.mk (Kd.N_below (Kd.N_elderB (by solve_by_elim only[HO111.out,Kd.kv,Kd.kk,Kd.kw]) gb120 (Nat.le_of_eq hg.symm)) hb);replace HO117:=U.mk (Kd.R_below (by solve_by_elim only[HO117.out,Kd.zv,Kd.zk,Kd.zw]) hb);have BK120:=U.mk (hbox);have GW120:=U.mk ((by rw[hg];exact(zj (by solve_by_elim (maxDepth:=20) only[HB.out,G,J,qq,qk,(wj.ge HI105.out),qk,GE101.out])):w.heap.size≤gb120));have GE120:=U.mk ((by rw[hg];exact(zj (by solve_by_elim (maxDepth:=20) only[HB.out,G,J,qq,qk,(wj.ge HI105.out),qk,GE101.out])):w.heap.size≤gb120));replace HB:=U.mk (zz (by solve_by_elim (maxDepth:=20) only[HB.out,G,J,qq,qk,(wj.ge HI105.out),qk,GE101.out]) hb);have NB101_120:=U.mk ((by rw[hg];exact Nat.ne_of_lt (blk_lt (g:=gb101) (o:=.cells #[.int .i64 0,.slice none 0 0,.int .i64 0,.int .i64 0] 61 (0,0)) (by solve_by_elim only[BK101.out,qw,qx,qv])):gb101≠gb120));have NB120_101:=U.mk ((by rw[hg];exact Nat.ne_of_gt (blk_lt (g:=gb101) (o:=.cells #[.int .i64 0,.slice none 0 0,.int .i64 0,.int .i64 0] 61 (0,0)) (by solve_by_elim only[BK101.out,qw,qx,qv])):gb120≠gb101));replace BK101:=U.mk (vx (g:=gb101) (o:=.cells #[.int .i64 0,.slice none 0 0,.int .i64 0,.int .i64 0] 61 (0,0)) (by solve_by_elim only[BK101.out,qw,qx,qv]) hb);have NB105_120:=U.mk ((by rw[hg];exact Nat.ne_of_lt (wj.lt (show wj w _ g105 t102 t112 t113 from by repeat(first|(with_reducible first|exact HI105.out|apply wj.alloc|apply wj.drewN|apply wj.drew|apply wj.set_1|apply wj.set_2|refine wj.far ?_ NB105_101.out _)|exact HI105.out))):g105≠gb120));have NB120_105:=U.mk ((by rw[hg];exact Nat.ne_of_gt (wj.lt (show wj w _ g105 t102 t112 t113 from by repeat(first|(with_reducible first|exact HI105.out|apply wj.alloc|apply wj.drewN|apply wj.drew|apply wj.set_1|apply wj.set_2|refine wj.far ?_ NB105_101.out _)|exact HI105.out))):gb120≠g105));replace HI105:=U.mk (wj.below (by solve_by_elim (maxDepth:=20) only[HI105.out,wj.alloc,wj.drewN,wj.drew,wj.set_1,wj.set_2,wj.far,NB105_101.out]) hb);clear hb hbox hg;have hnb102:=NB120_101.out;have hnc102:=NB101_120.out;have hnb103:=NB120_105.out;have hnc103:=NB105_120.out;have hcz104_0:w101.cell? ⟨gb120,0,none⟩ = some (.int .i64 0):=(qj BK120.out 0).trans rfl;have hcz104_1:w101.cell? ⟨gb120,1,none⟩ = some (.slice none 0 0):=(qj BK120.out 1).trans rfl;have hcz104_2:w101.cell? ⟨gb120,2,none⟩ = some (.int .i64 0):=(qj BK120.out 2).trans rfl;have hcz104_3:w101.cell? ⟨gb120,3,none⟩ = some (.int .i64 0):=(qj BK120.out 3).trans rfl;have hfz104_0:=qz BK120.out 0;have hfz104_1:=qz BK120.out 1;have hfz104_2:=qz BK120.out 2;have hfz104_3:=qz BK120.out 3;obtain⟨Ao105,co105,eo105⟩:=Kd.R_slice HO117.out;subst eo105)|((with_reducible refine jw (f:=109) rfl ?_);refine goesL_ (some 18) rfl rfl Try.func109 (by kernel_rfl) rfl #[.pointer (some ⟨g105,0,none⟩),.int .i64 8] rfl (by(try simp only[jq0,jq1,jq2]);first|done|rfl|(simp only[jq3,jq4];rfl)) ?_;(with_reducible refine(qwq.calls g105 t102 t112 t113 8 t121 t122 t123 w _ ?side1 ?side2 A6.out).mono ?_);(case side1=>repeat(first|(with_reducible first|exact HI105.out|apply wj.alloc|apply wj.drewN|apply wj.drew|apply wj.set_1|apply wj.set_2|refine wj.far ?_ NB105_101.out _|refine wj.far ?_ NB105_120.out _)|exact HI105.out));(case side2=>repeat(first|(with_reducible first|exact HB.out|apply G|apply J|apply qq|refine qk ?_ (wj.ge HI105.out)|refine qk ?_ GE101.out|refine qk ?_ GE120.out)|exact HB.out));rintro e w106 ⟨rfl,hi,hb,hk⟩;refine⟨_,rfl,?_⟩;replace BK101:=U.mk (zq.blk hk (g':=gb101) (o:=.cells #[.int .i64 0,.slice none 0 0,.int .i64 0,.int .i64 0] 61 (0,0)) (by(with_reducible repeat(first|refine qw ?_ _|refine qx ?_|refine qv ?_ _));refine blk_far ?_ NB101_120.out _;(with_reducible repeat(first|refine qw ?_ _|refine qx ?_|refine qv ?_ _));refine blk_far ?_ NB101_120.out _;(with_reducible repeat(first|refine qw ?_ _|refine qx ?_|refine qv ?_ _));refine blk_far ?_ NB101_120.out _;(with_reducible repeat(first|refine qw ?_ _|refine qx ?_|refine qv ?_ _));refine blk_far ?_ NB101_120.out _;(with_reducible repeat(first|refine qw ?_ _|refine qx ?_|refine qv ?_ _));exact BK101.out) NB101_105.out (by simp));replace HO111:=U.mk (Kd.N_mono (Kd.N_keep (Kd.N_mono (ok:=fun k_=>(((k_≠gb101∧k_≠g105)∧some k_≠(.slice Ao105 t115.length co105:Value).ownBlock)∧k_≠gb120)) (by(with_reducible repeat(first|apply Kd.kv|apply Kd.kk|apply Kd.kw));exact(Kd.N_mono (Kd.N_far (p:=⟨gb120,3,none⟩) (Kd.N_far (p:=⟨gb120,2,none⟩) (Kd.N_far (p:=⟨gb120,1,none⟩) (Kd.N_far (p:=⟨gb120,0,none⟩) (Kd.N_mono HO111.out (fun k_ hk=>(⟨hk,hk.2⟩ : _∧k_≠gb120))) (fun _ hk=>hk.2) (.int .i64 t114)) (fun _ hk=>hk.2) (.slice Ao105 t115.length co105)) (fun _ hk=>hk.2) (.int .i64 t118)) (fun _ hk=>hk.2) (.int .i64 t119)) (fun _ h_=>h_.1))) (fun k_ hk_=>(⟨hk_,hk_.1.1.2⟩ : _∧k_≠g105))) hk (fun _ h=>h.2)) (fun _ h=>h.1));replace HO117:=U.mk (Kd.R_mono (Kd.R_keep (wj.apart (show wj w _ g105 t102 t112 t113 from by repeat(first|(with_reducible first|exact HI105.out|apply wj.alloc|apply wj.drewN|apply wj.drew|apply wj.set_1|apply wj.set_2|refine wj.far ?_ NB105_101.out _|refine wj.far ?_ NB105_120.out _)|exact HI105.out)) (by(with_reducible repeat(first|apply Kd.zv|apply Kd.zk|apply Kd.zw));exact(Kd.R_mono (Kd.R_far (p:=⟨gb120,3,none⟩) (Kd.R_far (p:=⟨gb120,2,none⟩) (Kd.R_far (p:=⟨gb120,1,none⟩) (Kd.R_far (p:=⟨gb120,0,none⟩) (Kd.R_types HO117.out BK120.out (by decide)) (fun _ hk=>hk.2) (.int .i64 t114)) (fun _ hk=>hk.2) (.slice Ao105 t115.length co105)) (fun _ hk=>hk.2) (.int .i64 t118)) (fun _ hk=>hk.2) (.int .i64 t119)) (fun _ h_=>h_.1))) (by decide)) hk (fun _ h=>h.2)) (fun _ h=>h.1));replace BK120:=U.mk (zq.blk hk (g':=gb120) (o:=.cells #[.int .i64 t114,.slice Ao105 t115.length co105,.int .i64 t118,.int .i64 t119] 61 (0,0)) (by(with_reducible repeat(first|refine qw ?_ _|refine qx ?_|refine qv ?_ _));refine blk_put (cs:=#[.int .i64 t114,.slice Ao105 t115.length co105,.int .i64 t118,.int .i64 0]) ?_ 3 _ rfl;(with_reducible repeat(first|refine qw ?_ _|refine qx ?_|refine qv ?_ _));refine blk_put (cs:=#[.int .i64 t114,.slice Ao105 t115.length co105,.int .i64 0,.int .i64 0]) ?_ 2 _ rfl;(with_reducible repeat(first|refine qw ?_ _|refine qx ?_|refine qv ?_ _));refine blk_put (cs:=#[.int .i64 t114,.slice none 0 0,.int .i64 0,.int .i64 0]) ?_ 1 _ rfl;(with_reducible repeat(first|refine qw ?_ _|refine qx ?_|refine qv ?_ _));refine blk_put (cs:=#[.int .i64 0,.slice none 0 0,.int .i64 0,.int .i64 0]) ?_ 0 _ rfl;(with_reducible repeat(first|refine qw ?_ _|refine qx ?_|refine qv ?_ _));exact BK120.out) NB120_105.out (by simp));replace HB:=U.mk (hb);replace HI105:=U.mk (hi);(try clear hb hk hi)))
     replace HO111:=U.mk (Kd.kw HO111.out)
     replace HO117:=U.mk (Kd.zw HO117.out)
     replace BK101:=U.mk (qx BK101.out)
     replace BK120:=U.mk (qx BK120.out)
     replace HI105:=U.mk (wj.drew HI105.out)
     replace HB:=U.mk (qq HB.out)
     refine start_ (n:=5) (S:=fun w'=>w'.cell? ⟨gb120,0,none⟩ = some (.int .i64 t114)∧w'.cell? ⟨gb120,1,none⟩ = some (.slice Ao105 t115.length co105)∧w'.cell? ⟨gb120,2,none⟩ = some (.int .i64 t118)∧w'.cell? ⟨gb120,3,none⟩ = some (.int .i64 t119)) (ds:=[]) #[Y,Y,Y,Y,Y] (by kernel_rfl) rfl rfl ⟨(qj BK120.out 0).trans rfl,(qj BK120.out 1).trans rfl,(qj BK120.out 2).trans rfl,(qj BK120.out 3).trans rfl⟩ (fun hHeld=>?_)
     generalize w106.drew=w107 at HO111 HO117 BK101 BK120 HI105 HB hHeld ⊢
     refine pure_ (i:=0) (N:=some 44) (v:=?_) (a':=?_) #[Z,Y,Y,Y,Y] rfl rfl (by kernel_rfl) (fun _ _ _ h=>h) (Or.inl ⟨by rfl,?_⟩) ?_ ?_
     rotate_left
     ·intro w'
      go_simp
      with_reducible rfl
     rotate_left
     ·simp only[Act.put,jq5,jq6,jq7,i64_w,i32_w]
      rfl
     refine take_ (i:=2) (N:=some 46) (v:=?_) (a':=?_) #[Z,Y,Z,Y,Y] rfl rfl (by kernel_rfl) (fun _ _ _ h=>h) (Or.inl ⟨by rfl,?_⟩) hHeld ?_ ?_
     rotate_left
     ·rintro w' ⟨s0,s1,s2,s3⟩
      go_simp
      with_reducible rfl
     rotate_left
     ·simp only[Act.put,jq5,jq6,jq7,i64_w,i32_w]
      rfl
     refine one_ (i:=1) (N:=some 45) #[Z,Z,Z,Y,Y] rfl rfl (by kernel_rfl) (by decide) (fun K hK=>?_)
     refine goes_ Try.func66 (by kernel_rfl) rfl #[.int .i64 (wrap64 ((wrap64 (1 + t106)) + 1))] (by rfl) rfl rfl (by(try simp only[jq0,jq1,jq2]);first|done|rfl|(simp only[jq3,jq4];rfl)) ?_
     with_reducible refine(qkj.calls k (wrap64 ((wrap64 (1 + t106)) + 1)) t130 _ A94.out).mono ?_
     rintro e w' ⟨rfl,⟨nd,rfl⟩⟩
     refine⟨_,rfl,?_⟩
     refine hK.out _ _ ⟨(qj BK120.out 0).trans rfl,(qj BK120.out 1).trans rfl,(qj BK120.out 2).trans rfl,(qj BK120.out 3).trans rfl⟩ (fun hHeld=>?_)
     clear hK K
     refine norm_ (a':=?_) ?_ ?_
     rotate_left
     ·show Act.put _ (some 45) _=_
      simp only[Act.put,jq5,jq6,jq7,i64_w,i32_w]
      rfl
     refine pure_ (i:=3) (N:=some 2) (v:=?_) (a':=?_) #[Z,Z,Z,Z,Y] rfl rfl (by kernel_rfl) (fun _ _ _ h=>h) (Or.inl ⟨by rfl,?_⟩) ?_ ?_
     rotate_left
     ·intro w'
      go_simp
      with_reducible rfl
     rotate_left
     ·simp only[Act.put,jq5,jq6,jq7,i64_w,i32_w]
      rfl
     refine one_ (i:=4) (N:=none) #[Z,Z,Z,Z,Z] rfl rfl (by kernel_rfl) (by decide) (fun K hK=>?_)
     have hs108:w107.cell? ⟨gb101,0,none⟩ = some (.int .i64 0):=(qj BK101.out 0).trans rfl
     have hfs108:=qz BK101.out 0
     have hns108_1:=NB120_101.out
     have hms108_1:=NB101_120.out
     have hs109:w107.cell? ⟨gb101,1,none⟩ = some (.slice none 0 0):=(qj BK101.out 1).trans rfl
     have hfs109:=qz BK101.out 1
     have hns109_1:=NB120_101.out
     have hms109_1:=NB101_120.out
     have hs110:w107.cell? ⟨gb101,2,none⟩ = some (.int .i64 0):=(qj BK101.out 2).trans rfl
     have hfs110:=qz BK101.out 2
     have hns110_1:=NB120_101.out
     have hms110_1:=NB101_120.out
     have hs111:w107.cell? ⟨gb101,3,none⟩ = some (.int .i64 0):=(qj BK101.out 3).trans rfl
     have hfs111:=qz BK101.out 3
     have hns111_1:=NB120_101.out
     have hms111_1:=NB101_120.out
     refine skip_ (w1:=?_) (by rfl) rfl ?_ ?_
     rotate_left
     ·go_simp
      rfl
     refine hK.out _ _ ⟨((cell_far (p:=⟨gb101,_,none⟩) NB120_101.out _).trans (((cell_far (p:=⟨gb101,_,none⟩) NB120_101.out _).trans (((cell_far (p:=⟨gb101,_,none⟩) NB120_101.out _).trans (((cell_far (p:=⟨gb101,_,none⟩) NB120_101.out _).trans (hHeld.1)))))))),((cell_far (p:=⟨gb101,_,none⟩) NB120_101.out _).trans (((cell_far (p:=⟨gb101,_,none⟩) NB120_101.out _).trans (((cell_far (p:=⟨gb101,_,none⟩) NB120_101.out _).trans (((cell_far (p:=⟨gb101,_,none⟩) NB120_101.out _).trans (hHeld.2.1)))))))),((cell_far (p:=⟨gb101,_,none⟩) NB120_101.out _).trans (((cell_far (p:=⟨gb101,_,none⟩) NB120_101.out _).trans (((cell_far (p:=⟨gb101,_,none⟩) NB120_101.out _).trans (((cell_far (p:=⟨gb101,_,none⟩) NB120_101.out _).trans (hHeld.2.2.1)))))))),((cell_far (p:=⟨gb101,_,none⟩) NB120_101.out _).trans (((cell_far (p:=⟨gb101,_,none⟩) NB120_101.out _).trans (((cell_far (p:=⟨gb101,_,none⟩) NB120_101.out _).trans (((cell_far (p:=⟨gb101,_,none⟩) NB120_101.out _).trans (hHeld.2.2.2))))))))⟩ (fun hHeld=>?_)
     clear hK K
     refine done_ (by kernel_rfl) ?_
     try go_wp2
     refine bodyPost_ret (results_tc rfl _ _ gb101 61 #[.int .i64 t114,.slice Ao105 t115.length co105,.int .i64 t118,.int .i64 t119] (0,0) _ rfl (by(with_reducible repeat(first|refine qw ?_ _|refine qx ?_|refine qv ?_ _));refine blk_put (cs:=#[.int .i64 t114,.slice Ao105 t115.length co105,.int .i64 t118,.int .i64 0]) ?_ 3 _ rfl;(with_reducible repeat(first|refine qw ?_ _|refine qx ?_|refine qv ?_ _));refine blk_put (cs:=#[.int .i64 t114,.slice Ao105 t115.length co105,.int .i64 0,.int .i64 0]) ?_ 2 _ rfl;(with_reducible repeat(first|refine qw ?_ _|refine qx ?_|refine qv ?_ _));refine blk_put (cs:=#[.int .i64 t114,.slice none 0 0,.int .i64 0,.int .i64 0]) ?_ 1 _ rfl;(with_reducible repeat(first|refine qw ?_ _|refine qx ?_|refine qv ?_ _));refine blk_put (cs:=#[.int .i64 0,.slice none 0 0,.int .i64 0,.int .i64 0]) ?_ 0 _ rfl;(with_reducible repeat(first|refine qw ?_ _|refine qx ?_|refine qv ?_ _));exact BK101.out) Try.underlying61 rfl (by kernel_rfl)) rfl ?_
     exact⟨_,by first|rfl|(simp[*,jv,jk] <;> rfl),by(with_reducible repeat(first|apply Kd.zv|apply Kd.zk|apply Kd.zw));exact Kd.R_mono (Kd.R_far (p:=⟨gb101,3,none⟩) (Kd.R_far (p:=⟨gb101,2,none⟩) (Kd.R_far (p:=⟨gb101,1,none⟩) (Kd.R_far (p:=⟨gb101,0,none⟩) (Kd.R_types HO117.out BK101.out (by decide)) (fun _ hk=>hk.2) (.int .i64 t114)) (fun _ hk=>hk.2) (.slice Ao105 t115.length co105)) (fun _ hk=>hk.2) (.int .i64 t118)) (fun _ hk=>hk.2) (.int .i64 t119)) (fun _ hk=>trivial),by repeat(first|(with_reducible first|exact HB.out|apply G|apply J|apply qq|refine qk ?_ (wj.ge HI105.out)|refine qk ?_ GE101.out|refine qk ?_ GE120.out)|exact HB.out)⟩
    ·rw[if_neg c93] at H
     have c93b0:(t121 == 3)=false:=beq_eq_false_iff_ne.mpr c93
     have c93b1:(t121 != 3)=true:=bne_iff_ne.mpr c93
     replace H:=jq8.mp H
     obtain⟨t131,A1120,H⟩:=H
     try dsimp only at H
     have A112:=U.mk A1120
     clear A1120
     simp only[Option.some.injEq,Prod.mk.injEq] at H
     obtain⟨rfl,rfl,rfl,rfl,rfl⟩:=H
     go_enter Try.func65,Try.ntmps65
     try go_wp2_with (first|((with_reducible refine gate_dst (N:=3) rfl ?_);refine box_event ?hg (N:=3) ?hd (cs:=#[.int .i64 0,.slice none 0 0,.int .i64 0,.int .i64 0]) (t:=61) ?hr ?_;(case hd=>rfl);(case hg=>rfl);(case hr=>first|(go_simp;done)|(go_simp;rfl));intro gb101 hg w113 hbox hb;have BK101:=U.mk (hbox);have GW101:=U.mk ((by rw[hg];exact(zj (by solve_by_elim only[HB.out,G,J,qq])):w.heap.size≤gb101));have GE101:=U.mk ((by rw[hg];exact(zj (by solve_by_elim only[HB.out,G,J,qq])):w.heap.size≤gb101));replace HB:=U.mk (zz (by solve_by_elim only[HB.out,G,J,qq]) hb);clear hb hbox hg)|((with_reducible refine gate_box (t:=107) rfl ?_);refine boxGoesL_ (some 9) rfl rfl (t:=107) (cs:=#[.slice A0 l0.length c0,.int .i64 0,.int .u64 0]) (by first|(go_simp;done)|(go_simp;rfl)) ?_;(with_reducible refine(newCur.calls _ _ l0 0 0 t102 t103 t104 w _ ?side1 ?side2 ?side3 A2.out).mono ?_);(case side1=>repeat(first|(with_reducible first|exact HB.out|apply G|apply J|apply qq|refine qk ?_ GE101.out)|exact HB.out));(case side2=>exact HR0.out);(case side3=>exact HC0.out);rintro e w114 ⟨g105,rfl,hi,hb,hb2⟩;refine⟨_,rfl,?_⟩;replace HB:=U.mk (hb);have HI105:=U.mk (hi);have NB105_101:=U.mk (wj.ne_blk hi (vx (g:=gb101) (o:=.cells #[.int .i64 0,.slice none 0 0,.int .i64 0,.int .i64 0] 61 (0,0)) (by solve_by_elim only[BK101.out,qw,qx,qv]) hb2) (by decide));have NB101_105:=U.mk (Ne.symm (wj.ne_blk hi (vx (g:=gb101) (o:=.cells #[.int .i64 0,.slice none 0 0,.int .i64 0,.int .i64 0] 61 (0,0)) (by solve_by_elim only[BK101.out,qw,qx,qv]) hb2) (by decide)));replace BK101:=U.mk (vx (g:=gb101) (o:=.cells #[.int .i64 0,.slice none 0 0,.int .i64 0,.int .i64 0] 61 (0,0)) (by solve_by_elim only[BK101.out,qw,qx,qv]) hb2);(try clear hb hb2 hi))|((with_reducible refine jw (f:=109) rfl ?_);refine goesL_ (some 11) rfl rfl Try.func109 (by kernel_rfl) rfl #[.pointer (some ⟨g105,0,none⟩),.int .i64 60000] rfl (by(try simp only[jq0,jq1,jq2]);first|done|rfl|(simp only[jq3,jq4];rfl)) ?_;(with_reducible refine(qwq.calls g105 t102 t103 t104 60000 t106 t107 t108 w _ ?side1 ?side2 A3.out).mono ?_);(case side1=>repeat(first|(with_reducible first|exact HI105.out|apply wj.alloc|apply wj.drewN|apply wj.drew|apply wj.set_1|apply wj.set_2|refine wj.far ?_ NB105_101.out _)|exact HI105.out));(case side2=>repeat(first|(with_reducible first|exact HB.out|apply G|apply J|apply qq|refine qk ?_ (wj.ge HI105.out)|refine qk ?_ GE101.out)|exact HB.out));rintro e w115 ⟨rfl,hi,hb,hk⟩;refine⟨_,rfl,?_⟩;replace BK101:=U.mk (zq.blk hk (g':=gb101) (o:=.cells #[.int .i64 0,.slice none 0 0,.int .i64 0,.int .i64 0] 61 (0,0)) (by solve_by_elim only[BK101.out,qw,qx,qv]) NB101_105.out (by simp));replace HB:=U.mk (hb);replace HI105:=U.mk (hi);(try clear hb hk hi))|((with_reducible refine jw (f:=107) rfl ?_);refine goesL_ (some 15) rfl rfl Try.func107 (by kernel_rfl) rfl #[.pointer (some ⟨g105,0,none⟩),.int .i64 8] rfl (by(try simp only[jq0,jq1,jq2]);first|done|rfl|(simp only[jq3,jq4];rfl)) ?_;(with_reducible refine(qvq.calls k g105 t102 t107 t108 8 t109 t112 t113 w _ ?side1 ?side2 A4.out).mono ?_);(case side1=>repeat(first|(with_reducible first|exact HI105.out|apply wj.alloc|apply wj.drewN|apply wj.drew|apply wj.set_1|apply wj.set_2|refine wj.far ?_ NB105_101.out _)|exact HI105.out));(case side2=>repeat(first|(with_reducible first|exact HB.out|apply G|apply J|apply qq|refine qk ?_ (wj.ge HI105.out)|refine qk ?_ GE101.out)|exact HB.out));rintro e w116 ⟨v110,rfl,ho0,hi,hb,hk⟩;refine⟨_,rfl,?_⟩;have HO111:=U.mk (Kd.N_lower (Kd.N_mono (ok':=fun k_=>k_≠gb101∧k_≠g105) ho0 (fun k_ hk_=>⟨(Kd.freshB (g:=gb101) (o:=.cells #[.int .i64 0,.slice none 0 0,.int .i64 0,.int .i64 0] 61 (0,0)) (by solve_by_elim only[BK101.out,qw,qx,qv]) k_ hk_),(wj.fresh (by solve_by_elim (maxDepth:=20) only[HI105.out,wj.alloc,wj.drewN,wj.drew,wj.set_1,wj.set_2,wj.far,NB105_101.out]) k_ hk_)⟩)) (zj (by solve_by_elim (maxDepth:=20) only[HB.out,G,J,qq,qk,(wj.ge HI105.out),qk,GE101.out])));replace BK101:=U.mk (zq.blk hk (g':=gb101) (o:=.cells #[.int .i64 0,.slice none 0 0,.int .i64 0,.int .i64 0] 61 (0,0)) (by solve_by_elim only[BK101.out,qw,qx,qv]) NB101_105.out (by simp));replace HB:=U.mk (hb);replace HI105:=U.mk (hi);(try clear hb hk hi ho0);obtain⟨Ao117,co117,eo117⟩:=Kd.N_slice HO111.out;subst eo117)|((with_reducible refine jw (f:=58) rfl ?_);refine goesL_ (some 16) rfl rfl Try.func58 (by kernel_rfl) rfl #[.int .i64 (wrap64 (1 + t106)),.slice Ao117 t109.length co117] rfl (by(try simp only[jq0,jq1,jq2]);first|done|rfl|(simp only[jq3,jq4];rfl)) ?_;(with_reducible refine(qkv.calls k (wrap64 (1 + t106)) _ _ t109 t114 t115 t118 t119 _ ?side1 ?side2 A5.out).mono ?_);(case side1=>solve_by_elim only[(Kd.N_reads' HO111.out).2.2,Kd.C_alloc,Kd.C_drewN,Kd.C_drew]);(case side2=>exact(Kd.N_reads' HO111.out).2.1);rintro e w118 ⟨v116,rfl,ho0,hb⟩;refine⟨_,rfl,?_⟩;replace HO111:=U.mk (Kd.N_elder' (by solve_by_elim only[HO111.out,Kd.kv,Kd.kk,Kd.kw]) (Kd.R_base ho0) hb);have HO117:=U.mk (Kd.R_lower ho0 (zj (by solve_by_elim (maxDepth:=20) only[HB.out,G,J,qq,qk,(wj.ge HI105.out),qk,GE101.out])));replace BK101:=U.mk (vx (g:=gb101) (o:=.cells #[.int .i64 0,.slice none 0 0,.int .i64 0,.int .i64 0] 61 (0,0)) (by solve_by_elim only[BK101.out,qw,qx,qv]) hb);replace HB:=U.mk (zz (by solve_by_elim (maxDepth:=20) only[HB.out,G,J,qq,qk,(wj.ge HI105.out),qk,GE101.out]) hb);replace HI105:=U.mk (wj.below (by solve_by_elim (maxDepth:=20) only[HI105.out,wj.alloc,wj.drewN,wj.drew,wj.set_1,wj.set_2,wj.far,NB105_101.out]) hb);(try clear hb ho0))|((with_reducible refine gate_dst (N:=6) rfl ?_);refine box_event ?hg (N:=6) ?hd (cs:=#[.int .i64 0,.slice none 0 0,.int .i64 0,.int .i64 0]) (t:=61) ?hr ?_;(case hd=>rfl);(case hg=>rfl);(case hr=>first|(go_simp;done)|(go_simp;rfl));intro gb120 hg w119 hbox hb;replace HO111:=U.mk (Kd.N_below (Kd.N_elderB (by solve_by_elim only[HO111.out,Kd.kv,Kd.kk,Kd.kw]) gb120 (Nat.le_of_eq hg.symm)) hb);replace HO117:=U.mk (Kd.R_below (by solve_by_elim only[HO117.out,Kd.zv,Kd.zk,Kd.zw]) hb);have BK120:=U.mk (hbox);have GW120:=U.mk ((by rw[hg];exact(zj (by solve_by_elim (maxDepth:=20) only[HB.out,G,J,qq,qk,(wj.ge HI105.out),qk,GE101.out])):w.heap.size≤gb120));have GE120:=U.mk ((by rw[hg];exact(zj (by solve_by_elim (maxDepth:=20) only[HB.out,G,J,qq,qk,(wj.ge HI105.out),qk,GE101.out])):w.heap.size≤gb120));replace HB:=U.mk (zz (by solve_by_elim (maxDepth:=20) only[HB.out,G,J,qq,qk,(wj.ge HI105.out),qk,GE101.out]) hb);have NB101_120:=U.mk ((by rw[hg];exact Nat.ne_of_lt (blk_lt (g:=gb101) (o:=.cells #[.int .i64 0,.slice none 0 0,.int .i64 0,.int .i64 0] 61 (0,0)) (by solve_by_elim only[BK101.out,qw,qx,qv])):gb101≠gb120));have NB120_101:=U.mk ((by rw[hg];exact Nat.ne_of_gt (blk_lt (g:=gb101) (o:=.cells #[.int .i64 0,.slice none 0 0,.int .i64 0,.int .i64 0] 61 (0,0)) (by solve_by_elim only[BK101.out,qw,qx,qv])):gb120≠gb101));replace BK101:=U.mk (vx (g:=gb101) (o:=.cells #[.int .i64 0,.slice none 0 0,.int .i64 0,.int .i64 0] 61 (0,0)) (by solve_by_elim only[BK101.out,qw,qx,qv]) hb);have NB105_120:=U.mk ((by rw[hg];exact Nat.ne_of_lt (wj.lt (show wj w _ g105 t102 t112 t113 from by repeat(first|(with_reducible first|exact HI105.out|apply wj.alloc|apply wj.drewN|apply wj.drew|apply wj.set_1|apply wj.set_2|refine wj.far ?_ NB105_101.out _)|exact HI105.out))):g105≠gb120));have NB120_105:=U.mk ((by rw[hg];exact Nat.ne_of_gt (wj.lt (show wj w _ g105 t102 t112 t113 from by repeat(first|(with_reducible first|exact HI105.out|apply wj.alloc|apply wj.drewN|apply wj.drew|apply wj.set_1|apply wj.set_2|refine wj.far ?_ NB105_101.out _)|exact HI105.out))):gb120≠g105));replace HI105:=U.mk (wj.below (by solve_by_elim (maxDepth:=20) only[HI105.out,wj.alloc,wj.drewN,wj.drew,wj.set_1,wj.set_2,wj.far,NB105_101.out]) hb);clear hb hbox hg;have hnb120:=NB120_101.out;have hnc120:=NB101_120.out;have hnb121:=NB120_105.out;have hnc121:=NB105_120.out;have hcz122_0:w119.cell? ⟨gb120,0,none⟩ = some (.int .i64 0):=(qj BK120.out 0).trans rfl;have hcz122_1:w119.cell? ⟨gb120,1,none⟩ = some (.slice none 0 0):=(qj BK120.out 1).trans rfl;have hcz122_2:w119.cell? ⟨gb120,2,none⟩ = some (.int .i64 0):=(qj BK120.out 2).trans rfl;have hcz122_3:w119.cell? ⟨gb120,3,none⟩ = some (.int .i64 0):=(qj BK120.out 3).trans rfl;have hfz122_0:=qz BK120.out 0;have hfz122_1:=qz BK120.out 1;have hfz122_2:=qz BK120.out 2;have hfz122_3:=qz BK120.out 3;obtain⟨Ao123,co123,eo123⟩:=Kd.R_slice HO117.out;subst eo123)|((with_reducible refine jw (f:=109) rfl ?_);refine goesL_ (some 18) rfl rfl Try.func109 (by kernel_rfl) rfl #[.pointer (some ⟨g105,0,none⟩),.int .i64 8] rfl (by(try simp only[jq0,jq1,jq2]);first|done|rfl|(simp only[jq3,jq4];rfl)) ?_;(with_reducible refine(qwq.calls g105 t102 t112 t113 8 t121 t122 t123 w _ ?side1 ?side2 A6.out).mono ?_);(case side1=>repeat(first|(with_reducible first|exact HI105.out|apply wj.alloc|apply wj.drewN|apply wj.drew|apply wj.set_1|apply wj.set_2|refine wj.far ?_ NB105_101.out _|refine wj.far ?_ NB105_120.out _)|exact HI105.out));(case side2=>repeat(first|(with_reducible first|exact HB.out|apply G|apply J|apply qq|refine qk ?_ (wj.ge HI105.out)|refine qk ?_ GE101.out|refine qk ?_ GE120.out)|exact HB.out));rintro e w124 ⟨rfl,hi,hb,hk⟩;refine⟨_,rfl,?_⟩;replace BK101:=U.mk (zq.blk hk (g':=gb101) (o:=.cells #[.int .i64 0,.slice none 0 0,.int .i64 0,.int .i64 0] 61 (0,0)) (by(with_reducible repeat(first|refine qw ?_ _|refine qx ?_|refine qv ?_ _));refine blk_far ?_ NB101_120.out _;(with_reducible repeat(first|refine qw ?_ _|refine qx ?_|refine qv ?_ _));refine blk_far ?_ NB101_120.out _;(with_reducible repeat(first|refine qw ?_ _|refine qx ?_|refine qv ?_ _));refine blk_far ?_ NB101_120.out _;(with_reducible repeat(first|refine qw ?_ _|refine qx ?_|refine qv ?_ _));refine blk_far ?_ NB101_120.out _;(with_reducible repeat(first|refine qw ?_ _|refine qx ?_|refine qv ?_ _));exact BK101.out) NB101_105.out (by simp));replace HO111:=U.mk (Kd.N_mono (Kd.N_keep (Kd.N_mono (ok:=fun k_=>(((k_≠gb101∧k_≠g105)∧some k_≠(.slice Ao123 t115.length co123:Value).ownBlock)∧k_≠gb120)) (by(with_reducible repeat(first|apply Kd.kv|apply Kd.kk|apply Kd.kw));exact(Kd.N_mono (Kd.N_far (p:=⟨gb120,3,none⟩) (Kd.N_far (p:=⟨gb120,2,none⟩) (Kd.N_far (p:=⟨gb120,1,none⟩) (Kd.N_far (p:=⟨gb120,0,none⟩) (Kd.N_mono HO111.out (fun k_ hk=>(⟨hk,hk.2⟩ : _∧k_≠gb120))) (fun _ hk=>hk.2) (.int .i64 t114)) (fun _ hk=>hk.2) (.slice Ao123 t115.length co123)) (fun _ hk=>hk.2) (.int .i64 t118)) (fun _ hk=>hk.2) (.int .i64 t119)) (fun _ h_=>h_.1))) (fun k_ hk_=>(⟨hk_,hk_.1.1.2⟩ : _∧k_≠g105))) hk (fun _ h=>h.2)) (fun _ h=>h.1));replace HO117:=U.mk (Kd.R_mono (Kd.R_keep (wj.apart (show wj w _ g105 t102 t112 t113 from by repeat(first|(with_reducible first|exact HI105.out|apply wj.alloc|apply wj.drewN|apply wj.drew|apply wj.set_1|apply wj.set_2|refine wj.far ?_ NB105_101.out _|refine wj.far ?_ NB105_120.out _)|exact HI105.out)) (by(with_reducible repeat(first|apply Kd.zv|apply Kd.zk|apply Kd.zw));exact(Kd.R_mono (Kd.R_far (p:=⟨gb120,3,none⟩) (Kd.R_far (p:=⟨gb120,2,none⟩) (Kd.R_far (p:=⟨gb120,1,none⟩) (Kd.R_far (p:=⟨gb120,0,none⟩) (Kd.R_types HO117.out BK120.out (by decide)) (fun _ hk=>hk.2) (.int .i64 t114)) (fun _ hk=>hk.2) (.slice Ao123 t115.length co123)) (fun _ hk=>hk.2) (.int .i64 t118)) (fun _ hk=>hk.2) (.int .i64 t119)) (fun _ h_=>h_.1))) (by decide)) hk (fun _ h=>h.2)) (fun _ h=>h.1));replace BK120:=U.mk (zq.blk hk (g':=gb120) (o:=.cells #[.int .i64 t114,.slice Ao123 t115.length co123,.int .i64 t118,.int .i64 t119] 61 (0,0)) (by(with_reducible repeat(first|refine qw ?_ _|refine qx ?_|refine qv ?_ _));refine blk_put (cs:=#[.int .i64 t114,.slice Ao123 t115.length co123,.int .i64 t118,.int .i64 0]) ?_ 3 _ rfl;(with_reducible repeat(first|refine qw ?_ _|refine qx ?_|refine qv ?_ _));refine blk_put (cs:=#[.int .i64 t114,.slice Ao123 t115.length co123,.int .i64 0,.int .i64 0]) ?_ 2 _ rfl;(with_reducible repeat(first|refine qw ?_ _|refine qx ?_|refine qv ?_ _));refine blk_put (cs:=#[.int .i64 t114,.slice none 0 0,.int .i64 0,.int .i64 0]) ?_ 1 _ rfl;(with_reducible repeat(first|refine qw ?_ _|refine qx ?_|refine qv ?_ _));refine blk_put (cs:=#[.int .i64 0,.slice none 0 0,.int .i64 0,.int .i64 0]) ?_ 0 _ rfl;(with_reducible repeat(first|refine qw ?_ _|refine qx ?_|refine qv ?_ _));exact BK120.out) NB120_105.out (by simp));replace HB:=U.mk (hb);replace HI105:=U.mk (hi);(try clear hb hk hi)))
     replace HO111:=U.mk (Kd.kw HO111.out)
     replace HO117:=U.mk (Kd.zw HO117.out)
     replace BK101:=U.mk (qx BK101.out)
     replace BK120:=U.mk (qx BK120.out)
     replace HI105:=U.mk (wj.drew HI105.out)
     replace HB:=U.mk (qq HB.out)
     refine start_ (n:=5) (S:=fun w'=>w'.cell? ⟨gb120,0,none⟩ = some (.int .i64 t114)∧w'.cell? ⟨gb120,1,none⟩ = some (.slice Ao123 t115.length co123)∧w'.cell? ⟨gb120,2,none⟩ = some (.int .i64 t118)∧w'.cell? ⟨gb120,3,none⟩ = some (.int .i64 t119)) (ds:=[]) #[Y,Y,Y,Y,Y] (by kernel_rfl) rfl rfl ⟨(qj BK120.out 0).trans rfl,(qj BK120.out 1).trans rfl,(qj BK120.out 2).trans rfl,(qj BK120.out 3).trans rfl⟩ (fun hHeld=>?_)
     generalize w124.drew=w125 at HO111 HO117 BK101 BK120 HI105 HB hHeld ⊢
     refine pure_ (i:=0) (N:=some 44) (v:=?_) (a':=?_) #[Z,Y,Y,Y,Y] rfl rfl (by kernel_rfl) (fun _ _ _ h=>h) (Or.inl ⟨by rfl,?_⟩) ?_ ?_
     rotate_left
     ·intro w'
      go_simp
      with_reducible rfl
     rotate_left
     ·simp only[Act.put,jq5,jq6,jq7,i64_w,i32_w]
      rfl
     refine take_ (i:=2) (N:=some 46) (v:=?_) (a':=?_) #[Z,Y,Z,Y,Y] rfl rfl (by kernel_rfl) (fun _ _ _ h=>h) (Or.inl ⟨by rfl,?_⟩) hHeld ?_ ?_
     rotate_left
     ·rintro w' ⟨s0,s1,s2,s3⟩
      go_simp
      with_reducible rfl
     rotate_left
     ·simp only[Act.put,jq5,jq6,jq7,i64_w,i32_w]
      rfl
     refine one_ (i:=1) (N:=some 45) #[Z,Z,Z,Y,Y] rfl rfl (by kernel_rfl) (by decide) (fun K hK=>?_)
     refine goes_ Try.func66 (by kernel_rfl) rfl #[.int .i64 (wrap64 (1 + t106))] (by rfl) rfl rfl (by(try simp only[jq0,jq1,jq2]);first|done|rfl|(simp only[jq3,jq4];rfl)) ?_
     with_reducible refine(qkj.calls k (wrap64 (1 + t106)) t131 _ A112.out).mono ?_
     rintro e w' ⟨rfl,⟨nd,rfl⟩⟩
     refine⟨_,rfl,?_⟩
     refine hK.out _ _ ⟨(qj BK120.out 0).trans rfl,(qj BK120.out 1).trans rfl,(qj BK120.out 2).trans rfl,(qj BK120.out 3).trans rfl⟩ (fun hHeld=>?_)
     clear hK K
     refine norm_ (a':=?_) ?_ ?_
     rotate_left
     ·show Act.put _ (some 45) _=_
      simp only[Act.put,jq5,jq6,jq7,i64_w,i32_w]
      rfl
     refine pure_ (i:=3) (N:=some 2) (v:=?_) (a':=?_) #[Z,Z,Z,Z,Y] rfl rfl (by kernel_rfl) (fun _ _ _ h=>h) (Or.inl ⟨by rfl,?_⟩) ?_ ?_
     rotate_left
     ·intro w'
      go_simp
      with_reducible rfl
     rotate_left
     ·simp only[Act.put,jq5,jq6,jq7,i64_w,i32_w]
      rfl
     refine one_ (i:=4) (N:=none) #[Z,Z,Z,Z,Z] rfl rfl (by kernel_rfl) (by decide) (fun K hK=>?_)
     have hs126:w125.cell? ⟨gb101,0,none⟩ = some (.int .i64 0):=(qj BK101.out 0).trans rfl
     have hfs126:=qz BK101.out 0
     have hns126_1:=NB120_101.out
     have hms126_1:=NB101_120.out
     have hs127:w125.cell? ⟨gb101,1,none⟩ = some (.slice none 0 0):=(qj BK101.out 1).trans rfl
     have hfs127:=qz BK101.out 1
     have hns127_1:=NB120_101.out
     have hms127_1:=NB101_120.out
     have hs128:w125.cell? ⟨gb101,2,none⟩ = some (.int .i64 0):=(qj BK101.out 2).trans rfl
     have hfs128:=qz BK101.out 2
     have hns128_1:=NB120_101.out
     have hms128_1:=NB101_120.out
     have hs129:w125.cell? ⟨gb101,3,none⟩ = some (.int .i64 0):=(qj BK101.out 3).trans rfl
     have hfs129:=qz BK101.out 3
     have hns129_1:=NB120_101.out
     have hms129_1:=NB101_120.out
     refine skip_ (w1:=?_) (by rfl) rfl ?_ ?_
     rotate_left
     ·go_simp
      rfl
     refine hK.out _ _ ⟨((cell_far (p:=⟨gb101,_,none⟩) NB120_101.out _).trans (((cell_far (p:=⟨gb101,_,none⟩) NB120_101.out _).trans (((cell_far (p:=⟨gb101,_,none⟩) NB120_101.out _).trans (((cell_far (p:=⟨gb101,_,none⟩) NB120_101.out _).trans (hHeld.1)))))))),((cell_far (p:=⟨gb101,_,none⟩) NB120_101.out _).trans (((cell_far (p:=⟨gb101,_,none⟩) NB120_101.out _).trans (((cell_far (p:=⟨gb101,_,none⟩) NB120_101.out _).trans (((cell_far (p:=⟨gb101,_,none⟩) NB120_101.out _).trans (hHeld.2.1)))))))),((cell_far (p:=⟨gb101,_,none⟩) NB120_101.out _).trans (((cell_far (p:=⟨gb101,_,none⟩) NB120_101.out _).trans (((cell_far (p:=⟨gb101,_,none⟩) NB120_101.out _).trans (((cell_far (p:=⟨gb101,_,none⟩) NB120_101.out _).trans (hHeld.2.2.1)))))))),((cell_far (p:=⟨gb101,_,none⟩) NB120_101.out _).trans (((cell_far (p:=⟨gb101,_,none⟩) NB120_101.out _).trans (((cell_far (p:=⟨gb101,_,none⟩) NB120_101.out _).trans (((cell_far (p:=⟨gb101,_,none⟩) NB120_101.out _).trans (hHeld.2.2.2))))))))⟩ (fun hHeld=>?_)
     clear hK K
     refine done_ (by kernel_rfl) ?_
     try go_wp2
     refine bodyPost_ret (results_tc rfl _ _ gb101 61 #[.int .i64 t114,.slice Ao123 t115.length co123,.int .i64 t118,.int .i64 t119] (0,0) _ rfl (by(with_reducible repeat(first|refine qw ?_ _|refine qx ?_|refine qv ?_ _));refine blk_put (cs:=#[.int .i64 t114,.slice Ao123 t115.length co123,.int .i64 t118,.int .i64 0]) ?_ 3 _ rfl;(with_reducible repeat(first|refine qw ?_ _|refine qx ?_|refine qv ?_ _));refine blk_put (cs:=#[.int .i64 t114,.slice Ao123 t115.length co123,.int .i64 0,.int .i64 0]) ?_ 2 _ rfl;(with_reducible repeat(first|refine qw ?_ _|refine qx ?_|refine qv ?_ _));refine blk_put (cs:=#[.int .i64 t114,.slice none 0 0,.int .i64 0,.int .i64 0]) ?_ 1 _ rfl;(with_reducible repeat(first|refine qw ?_ _|refine qx ?_|refine qv ?_ _));refine blk_put (cs:=#[.int .i64 0,.slice none 0 0,.int .i64 0,.int .i64 0]) ?_ 0 _ rfl;(with_reducible repeat(first|refine qw ?_ _|refine qx ?_|refine qv ?_ _));exact BK101.out) Try.underlying61 rfl (by kernel_rfl)) rfl ?_
     exact⟨_,by first|rfl|(simp[*,jv,jk] <;> rfl),by(with_reducible repeat(first|apply Kd.zv|apply Kd.zk|apply Kd.zw));exact Kd.R_mono (Kd.R_far (p:=⟨gb101,3,none⟩) (Kd.R_far (p:=⟨gb101,2,none⟩) (Kd.R_far (p:=⟨gb101,1,none⟩) (Kd.R_far (p:=⟨gb101,0,none⟩) (Kd.R_types HO117.out BK101.out (by decide)) (fun _ hk=>hk.2) (.int .i64 t114)) (fun _ hk=>hk.2) (.slice Ao123 t115.length co123)) (fun _ hk=>hk.2) (.int .i64 t118)) (fun _ hk=>hk.2) (.int .i64 t119)) (fun _ hk=>trivial),by repeat(first|(with_reducible first|exact HB.out|apply G|apply J|apply qq|refine qk ?_ (wj.ge HI105.out)|refine qk ?_ GE101.out|refine qk ?_ GE120.out)|exact HB.out)⟩
theorem eqA59 (d:Nat) (w:World) (x0 y0:Int) (x1 y1:Int) :
  (Op.equalIn (d + 2) 59 (.agg #[.int .i64 x0,.int .i64 x1]) (.agg #[.int .i64 y0,.int .i64 y1])).run Try.prog w=.ok (x0 == y0 && (x1 == y1)) w:=by
 refine eqA_of Try.underlying59 (by kernel_rfl) ?_
 refine eqf_cons (by rfl) (by go_simp;rfl) (by go_simp;rfl) (by go_simp) ?_
 exact eqf_last (by rfl) (by go_simp;rfl) (by go_simp;rfl) (by go_simp)
attribute [local go_sem high] eqA59
def qjj.f (k:Nat) (l0:List Int):Option (Bool):=if (l0.length:Int) > 1048576 then(some true) else((qkq.f k l0).bind fun bt101=>((qqj.f k bt101.1 bt101.2).bind fun bt105=>((qkv.f k bt101.1 bt101.2).bind fun bt112=>(if bt105.1=bt112.1 then((qjk.f bt105.2.1 bt112.2.1).bind fun t119=>(if t119=true then(if (!(bt105.2.2.1 == bt112.2.2.1) || (!(bt105.2.2.2 == bt112.2.2.2)))=true then(none) else(if (bt105.2.1.length:Int)=0 then(some true) else((qjx.f k l0).bind fun bt120=>((qkj.f k bt101.1).bind fun t128=>((xz.f k t128 bt105.1 bt105.2.1 bt105.2.2.1 bt105.2.2.2).bind fun t129=>(if t129=true then((xz.f k bt120.1 bt120.2.1 bt120.2.2.1 bt120.2.2.2.1 bt120.2.2.2.2).bind fun t130=>((qjw.f k bt120.1 bt120.2.1 bt120.2.2.1 bt120.2.2.2.1 bt120.2.2.2.2).bind fun t131=>(some (t130 == t131)))) else(none))))))) else(none))) else(none)))))
def qjj.T11:Bool × List (List Nat × List Nat):=(true,[([],[]),([0],[0]),([],[]),([1,2,1],[1,2]),([3,3],[3]),([4],[4]),([4],[4]),([5,6,4,4],[4,5,6]),([4],[4]),([4],[4]),([8,9,7,4],[4,8,9]),([7,10,4],[4,7,10]),([4,11],[4,11]),([12,10,0,1,2,3,4,5,6,7,8,9,10,11,12],[12])])
def qjj.B11:List Nat:=[0,1,0,7,15,31,31,127,31,31,1023,2047,4095,8191]
theorem qjj.tab11:rtab .any (opsOf Try.f15 11)=qjj.T11:=by kernel_rfl
theorem qjj.bits11:waitsOk qjj.T11.2 qjj.B11=true:=by kernel_rfl
theorem qjj.calls (k:Nat) (A0:Option Addr) (c0:Nat) (l0:List Int) (r:Bool) (w:World) (hr0:Kd.C (Kd.int .u8) w A0 l0.length l0) (hc0:l0.length≤c0) (h:qjj.f k l0=some r) :
  Calls Try.prog 15 #[.slice A0 l0.length c0] w fun e w'=>e=.returned (.bool r)∧Below w.heap.size w w':=by
 have hu61:=Try.underlying61
 have hu59:=Try.underlying59
 have HR0:=U.mk hr0
 have HC0:=U.mk hc0
 clear hr0 hc0
 have HB:=U.mk (Below.refl w.heap.size w)
 unfold qjj.f at h
 have H:=h
 clear h
 by_cases c2:(l0.length:Int) > 1048576
 ·rw[if_pos c2] at H
  have c2b0:decide (1048576 < (l0.length:Int))=true:=decide_eq_true c2
  have c2b1:decide (1048576 < l0.length)=true:=decide_eq_true (by omega)
  clear c2
  obtain rfl:=Option.some.inj H
  go_enter Try.func15,Try.ntmps15
  go_wp2
  go_ret
  exact⟨by first|rfl|(simp[*,jv,jk] <;> rfl),by repeat(first|(with_reducible first|exact HB.out|apply G|apply J|apply qq)|exact HB.out)⟩
 ·rw[if_neg c2] at H
  have c2b0:decide (1048576 < (l0.length:Int))=false:=decide_eq_false c2
  have c2b1:decide (1048576 < l0.length)=false:=decide_eq_false (by omega)
  clear c2
  replace H:=jq8.mp H
  obtain⟨⟨t101,t102⟩,A30,H⟩:=H
  try dsimp only at H
  have A3:=U.mk A30
  clear A30
  replace H:=jq8.mp H
  obtain⟨⟨t105,t106,t109,t110⟩,A40,H⟩:=H
  try dsimp only at H
  have A4:=U.mk A40
  clear A40
  replace H:=jq8.mp H
  obtain⟨⟨t112,t113,t116,t117⟩,A50,H⟩:=H
  try dsimp only at H
  have A5:=U.mk A50
  clear A50
  by_cases c6:t105=t112
  ·rw[if_pos c6] at H
   have c6b0:(t105 == t112)=true:=beq_iff_eq.mpr c6
   have c6b1:(t105 != t112)=false:=bne_eq_false_iff_eq.mpr c6
   clear c6
   replace H:=jq8.mp H
   obtain⟨t119,A70,H⟩:=H
   try dsimp only at H
   have A7:=U.mk A70
   clear A70
   by_cases c8:t119=true
   ·subst c8
    have H1:(if (!(t109 == t116) || (!(t110 == t117)))=true then(none) else(if (t106.length:Int)=0 then(some true) else((qjx.f k l0).bind fun bt120=>((qkj.f k t101).bind fun t128=>((xz.f k t128 t105 t106 t109 t110).bind fun t129=>(if t129=true then((xz.f k bt120.1 bt120.2.1 bt120.2.2.1 bt120.2.2.2.1 bt120.2.2.2.2).bind fun t130=>((qjw.f k bt120.1 bt120.2.1 bt120.2.2.1 bt120.2.2.2.1 bt120.2.2.2.2).bind fun t131=>(some (t130 == t131)))) else(none)))))))=some r:=by rw[if_pos rfl] at H;exact H
    clear H
    have H:=H1
    clear H1
    by_cases c9:(!(t109 == t116) || (!(t110 == t117)))=true
    ·rw[if_pos c9] at H
     exact absurd H (by simp)
    ·rw[if_neg c9] at H
     have c9b0:(!(t109 == t116) || (!(t110 == t117)))=false:=by simpa using c9
     clear c9
     by_cases c10:(t106.length:Int)=0
     ·rw[if_pos c10] at H
      have c10b0:((t106.length:Int) == 0)=true:=beq_iff_eq.mpr c10
      have c10b1:((t106.length:Int) != 0)=false:=bne_eq_false_iff_eq.mpr c10
      clear c10
      obtain rfl:=Option.some.inj H
      go_enter Try.func15,Try.ntmps15
      go_wp2_with (first|((with_reducible refine jw (f:=64) rfl ?_);refine goesL_ (some 14) rfl rfl Try.func64 (by kernel_rfl) rfl #[.slice A0 l0.length c0] rfl (by(try simp only[jq0,jq1,jq2]);first|done|rfl|(simp only[jq3,jq4];rfl)) ?_;(with_reducible refine(qkq.calls k _ _ l0 t101 t102 _ ?side1 ?side2 A3.out).mono ?_);(case side1=>solve_by_elim only[HR0.out,Kd.C_alloc,Kd.C_drewN,Kd.C_drew]);(case side2=>exact HC0.out);rintro e w11 ⟨v103,rfl,ho0,hb⟩;refine⟨_,rfl,?_⟩;have HO104:=U.mk (Kd.N_lower (Kd.N_mono (ok':=fun k_=>True) ho0 (fun k_ hk_=>trivial)) (zj (by solve_by_elim only[HB.out,G,J,qq])));replace HB:=U.mk (zz (by solve_by_elim only[HB.out,G,J,qq]) hb);(try clear hb ho0);obtain⟨Ao12,co12,eo12⟩:=Kd.N_slice HO104.out;subst eo12)|((with_reducible refine jw (f:=59) rfl ?_);refine goesL_ (some 19) rfl rfl Try.func59 (by kernel_rfl) rfl #[.int .i64 t101,.slice Ao12 t102.length co12] rfl (by(try simp only[jq0,jq1,jq2]);first|done|rfl|(simp only[jq3,jq4];rfl)) ?_;(with_reducible refine(qqj.calls k t101 _ _ t102 t105 t106 t109 t110 _ ?side1 ?side2 A4.out).mono ?_);(case side1=>solve_by_elim only[(Kd.N_reads' HO104.out).2.2,Kd.C_alloc,Kd.C_drewN,Kd.C_drew]);(case side2=>exact(Kd.N_reads' HO104.out).2.1);rintro e w13 ⟨v107,rfl,ho0,hb⟩;refine⟨_,rfl,?_⟩;replace HO104:=U.mk (Kd.N_elder' (by solve_by_elim only[HO104.out,Kd.kv,Kd.kk,Kd.kw]) (Kd.R_base ho0) hb);have HO108:=U.mk (Kd.R_lower ho0 (zj (by solve_by_elim only[HB.out,G,J,qq])));replace HB:=U.mk (zz (by solve_by_elim only[HB.out,G,J,qq]) hb);(try clear hb ho0))|((with_reducible refine gate_dst (N:=5) rfl ?_);refine box_event ?hg (N:=5) ?hd (cs:=#[.int .i64 0,.slice none 0 0,.int .i64 0,.int .i64 0]) (t:=61) ?hr ?_;(case hd=>rfl);(case hg=>rfl);(case hr=>first|(go_simp;done)|(go_simp;rfl));intro gb111 hg w14 hbox hb;replace HO104:=U.mk (Kd.N_below (Kd.N_elderB (by solve_by_elim only[HO104.out,Kd.kv,Kd.kk,Kd.kw]) gb111 (Nat.le_of_eq hg.symm)) hb);replace HO108:=U.mk (Kd.R_below (by solve_by_elim only[HO108.out,Kd.zv,Kd.zk,Kd.zw]) hb);have BK111:=U.mk (hbox);have GW111:=U.mk ((by rw[hg];exact(zj (by solve_by_elim only[HB.out,G,J,qq])):w.heap.size≤gb111));have GE111:=U.mk ((by rw[hg];exact(zj (by solve_by_elim only[HB.out,G,J,qq])):w.heap.size≤gb111));replace HB:=U.mk (zz (by solve_by_elim only[HB.out,G,J,qq]) hb);clear hb hbox hg;have hcz15_0:w14.cell? ⟨gb111,0,none⟩ = some (.int .i64 0):=(qj BK111.out 0).trans rfl;have hcz15_1:w14.cell? ⟨gb111,1,none⟩ = some (.slice none 0 0):=(qj BK111.out 1).trans rfl;have hcz15_2:w14.cell? ⟨gb111,2,none⟩ = some (.int .i64 0):=(qj BK111.out 2).trans rfl;have hcz15_3:w14.cell? ⟨gb111,3,none⟩ = some (.int .i64 0):=(qj BK111.out 3).trans rfl;have hfz15_0:=qz BK111.out 0;have hfz15_1:=qz BK111.out 1;have hfz15_2:=qz BK111.out 2;have hfz15_3:=qz BK111.out 3;obtain⟨Ao16,co16,eo16⟩:=Kd.R_slice HO108.out;subst eo16)|((with_reducible refine jw (f:=58) rfl ?_);refine goesL_ (some 22) rfl rfl Try.func58 (by kernel_rfl) rfl #[.int .i64 t101,.slice Ao12 t102.length co12] rfl (by(try simp only[jq0,jq1,jq2]);first|done|rfl|(simp only[jq3,jq4];rfl)) ?_;(with_reducible refine(qkv.calls k t101 _ _ t102 t112 t113 t116 t117 _ ?side1 ?side2 A5.out).mono ?_);(case side1=>refine(Kd.N_reads' (e:=27) (base:=w.heap.size) (ok:=fun k_=>((True∧some k_≠(.slice Ao16 t106.length co16:Value).ownBlock)∧k_≠gb111)) (n:=t102.length) (c:=co12) ?_).2.2;exact(by(with_reducible repeat(first|apply Kd.kv|apply Kd.kk|apply Kd.kw));exact(Kd.N_mono (Kd.N_far (p:=⟨gb111,3,none⟩) (Kd.N_far (p:=⟨gb111,2,none⟩) (Kd.N_far (p:=⟨gb111,1,none⟩) (Kd.N_far (p:=⟨gb111,0,none⟩) (Kd.N_mono HO104.out (fun k_ hk=>(⟨hk,hk.2⟩ : _∧k_≠gb111))) (fun _ hk=>hk.2) (.int .i64 t105)) (fun _ hk=>hk.2) (.slice Ao16 t106.length co16)) (fun _ hk=>hk.2) (.int .i64 t109)) (fun _ hk=>hk.2) (.int .i64 t110)) (fun _ h_=>h_.1))));(case side2=>exact(Kd.N_reads' HO104.out).2.1);rintro e w17 ⟨v114,rfl,ho0,hb⟩;refine⟨_,rfl,?_⟩;replace HO104:=U.mk (Kd.N_elder' (by(with_reducible repeat(first|apply Kd.kv|apply Kd.kk|apply Kd.kw));exact(Kd.N_mono (Kd.N_far (p:=⟨gb111,3,none⟩) (Kd.N_far (p:=⟨gb111,2,none⟩) (Kd.N_far (p:=⟨gb111,1,none⟩) (Kd.N_far (p:=⟨gb111,0,none⟩) (Kd.N_mono HO104.out (fun k_ hk=>(⟨hk,hk.2⟩ : _∧k_≠gb111))) (fun _ hk=>hk.2) (.int .i64 t105)) (fun _ hk=>hk.2) (.slice Ao16 t106.length co16)) (fun _ hk=>hk.2) (.int .i64 t109)) (fun _ hk=>hk.2) (.int .i64 t110)) (fun _ h_=>h_.1))) (Kd.R_base ho0) hb);have HO115:=U.mk (Kd.R_lower (Kd.R_new' ho0 (Kd.R_lt (by(with_reducible repeat(first|apply Kd.zv|apply Kd.zk|apply Kd.zw));exact(Kd.R_mono (Kd.R_far (p:=⟨gb111,3,none⟩) (Kd.R_far (p:=⟨gb111,2,none⟩) (Kd.R_far (p:=⟨gb111,1,none⟩) (Kd.R_far (p:=⟨gb111,0,none⟩) (Kd.R_types HO108.out BK111.out (by decide)) (fun _ hk=>hk.2) (.int .i64 t105)) (fun _ hk=>hk.2) (.slice Ao16 t106.length co16)) (fun _ hk=>hk.2) (.int .i64 t109)) (fun _ hk=>hk.2) (.int .i64 t110)) (fun _ h_=>h_.1))))) (zj (by solve_by_elim (maxDepth:=20) only[HB.out,G,J,qq,qk,GE111.out])));replace HO108:=U.mk (Kd.R_elder' (by(with_reducible repeat(first|apply Kd.zv|apply Kd.zk|apply Kd.zw));exact(Kd.R_mono (Kd.R_far (p:=⟨gb111,3,none⟩) (Kd.R_far (p:=⟨gb111,2,none⟩) (Kd.R_far (p:=⟨gb111,1,none⟩) (Kd.R_far (p:=⟨gb111,0,none⟩) (Kd.R_types HO108.out BK111.out (by decide)) (fun _ hk=>hk.2) (.int .i64 t105)) (fun _ hk=>hk.2) (.slice Ao16 t106.length co16)) (fun _ hk=>hk.2) (.int .i64 t109)) (fun _ hk=>hk.2) (.int .i64 t110)) (fun _ h_=>h_.1))) (Kd.R_base ho0) hb);replace BK111:=U.mk (vx (g:=gb111) (o:=.cells #[.int .i64 t105,.slice Ao16 t106.length co16,.int .i64 t109,.int .i64 t110] 61 (0,0)) (by(with_reducible repeat(first|refine qw ?_ _|refine qx ?_|refine qv ?_ _));refine blk_put (cs:=#[.int .i64 t105,.slice Ao16 t106.length co16,.int .i64 t109,.int .i64 0]) ?_ 3 _ rfl;(with_reducible repeat(first|refine qw ?_ _|refine qx ?_|refine qv ?_ _));refine blk_put (cs:=#[.int .i64 t105,.slice Ao16 t106.length co16,.int .i64 0,.int .i64 0]) ?_ 2 _ rfl;(with_reducible repeat(first|refine qw ?_ _|refine qx ?_|refine qv ?_ _));refine blk_put (cs:=#[.int .i64 t105,.slice none 0 0,.int .i64 0,.int .i64 0]) ?_ 1 _ rfl;(with_reducible repeat(first|refine qw ?_ _|refine qx ?_|refine qv ?_ _));refine blk_put (cs:=#[.int .i64 0,.slice none 0 0,.int .i64 0,.int .i64 0]) ?_ 0 _ rfl;(with_reducible repeat(first|refine qw ?_ _|refine qx ?_|refine qv ?_ _));exact BK111.out) hb);replace HB:=U.mk (zz (by solve_by_elim (maxDepth:=20) only[HB.out,G,J,qq,qk,GE111.out]) hb);(try clear hb ho0))|((with_reducible refine gate_dst (N:=6) rfl ?_);refine box_event ?hg (N:=6) ?hd (cs:=#[.int .i64 0,.slice none 0 0,.int .i64 0,.int .i64 0]) (t:=61) ?hr ?_;(case hd=>rfl);(case hg=>rfl);(case hr=>first|(go_simp;done)|(go_simp;rfl));intro gb118 hg w18 hbox hb;replace HO104:=U.mk (Kd.N_below (Kd.N_elderB (by solve_by_elim only[HO104.out,Kd.kv,Kd.kk,Kd.kw]) gb118 (Nat.le_of_eq hg.symm)) hb);replace HO108:=U.mk (Kd.R_below (by solve_by_elim only[HO108.out,Kd.zv,Kd.zk,Kd.zw]) hb);replace HO115:=U.mk (Kd.R_below (by solve_by_elim only[HO115.out,Kd.zv,Kd.zk,Kd.zw]) hb);have BK118:=U.mk (hbox);have GW118:=U.mk ((by rw[hg];exact(zj (by solve_by_elim (maxDepth:=20) only[HB.out,G,J,qq,qk,GE111.out])):w.heap.size≤gb118));have GE118:=U.mk ((by rw[hg];exact(zj (by solve_by_elim (maxDepth:=20) only[HB.out,G,J,qq,qk,GE111.out])):w.heap.size≤gb118));replace HB:=U.mk (zz (by solve_by_elim (maxDepth:=20) only[HB.out,G,J,qq,qk,GE111.out]) hb);have NB111_118:=U.mk ((by rw[hg];exact Nat.ne_of_lt (blk_lt (g:=gb111) (o:=.cells #[.int .i64 t105,.slice Ao16 t106.length co16,.int .i64 t109,.int .i64 t110] 61 (0,0)) (by solve_by_elim only[BK111.out,qw,qx,qv])):gb111≠gb118));have NB118_111:=U.mk ((by rw[hg];exact Nat.ne_of_gt (blk_lt (g:=gb111) (o:=.cells #[.int .i64 t105,.slice Ao16 t106.length co16,.int .i64 t109,.int .i64 t110] 61 (0,0)) (by solve_by_elim only[BK111.out,qw,qx,qv])):gb118≠gb111));replace BK111:=U.mk (vx (g:=gb111) (o:=.cells #[.int .i64 t105,.slice Ao16 t106.length co16,.int .i64 t109,.int .i64 t110] 61 (0,0)) (by solve_by_elim only[BK111.out,qw,qx,qv]) hb);clear hb hbox hg;have hnb19:=NB118_111.out;have hnc19:=NB111_118.out;have hcz20_0:w18.cell? ⟨gb118,0,none⟩ = some (.int .i64 0):=(qj BK118.out 0).trans rfl;have hcz20_1:w18.cell? ⟨gb118,1,none⟩ = some (.slice none 0 0):=(qj BK118.out 1).trans rfl;have hcz20_2:w18.cell? ⟨gb118,2,none⟩ = some (.int .i64 0):=(qj BK118.out 2).trans rfl;have hcz20_3:w18.cell? ⟨gb118,3,none⟩ = some (.int .i64 0):=(qj BK118.out 3).trans rfl;have hfz20_0:=qz BK118.out 0;have hfz20_1:=qz BK118.out 1;have hfz20_2:=qz BK118.out 2;have hfz20_3:=qz BK118.out 3;obtain⟨Ao21,co21,eo21⟩:=Kd.R_slice HO115.out;subst eo21;have hcz22_0:w18.cell? ⟨gb111,0,none⟩ = some (.int .i64 t105):=(qj BK111.out 0).trans rfl;have hcz22_1:w18.cell? ⟨gb111,1,none⟩ = some (.slice Ao16 t106.length co16):=(qj BK111.out 1).trans rfl;have hcz22_2:w18.cell? ⟨gb111,2,none⟩ = some (.int .i64 t109):=(qj BK111.out 2).trans rfl;have hcz22_3:w18.cell? ⟨gb111,3,none⟩ = some (.int .i64 t110):=(qj BK111.out 3).trans rfl;have hfz22_0:=qz BK111.out 0;have hfz22_1:=qz BK111.out 1;have hfz22_2:=qz BK111.out 2;have hfz22_3:=qz BK111.out 3)|(go_at_call 63;(with_reducible refine(qjk.calls _ _ t106 _ _ t113 true _ ?side1 ?side2 ?side3 ?side4 A7.out).mono ?_);(case side1=>refine(Kd.R_reads' (e:=5) (base:=w.heap.size) (ok:=fun k_=>(True∧some k_≠(.slice Ao21 t113.length co21:Value).ownBlock)) (n:=t106.length) (c:=co16) ?_).2.2;exact(by(with_reducible repeat(first|apply Kd.zv|apply Kd.zk|apply Kd.zw));exact(Kd.R_mono (Kd.R_far (p:=⟨gb118,3,none⟩) (Kd.R_far (p:=⟨gb118,2,none⟩) (Kd.R_far (p:=⟨gb118,1,none⟩) (Kd.R_far (p:=⟨gb118,0,none⟩) (Kd.R_types HO108.out BK118.out (by decide)) (fun _ hk=>hk.2) (.int .i64 t112)) (fun _ hk=>hk.2) (.slice Ao21 t113.length co21)) (fun _ hk=>hk.2) (.int .i64 t116)) (fun _ hk=>hk.2) (.int .i64 t117)) (fun _ h_=>h_.1))));(case side2=>exact(Kd.R_reads' HO108.out).2.1);(case side3=>refine(Kd.R_reads' (e:=5) (base:=w.heap.size) (ok:=fun k_=>(True∧some k_≠(.slice Ao16 t106.length co16:Value).ownBlock)) (n:=t113.length) (c:=co21) ?_).2.2;exact(by(with_reducible repeat(first|apply Kd.zv|apply Kd.zk|apply Kd.zw));exact(Kd.R_mono (Kd.R_far (p:=⟨gb118,3,none⟩) (Kd.R_far (p:=⟨gb118,2,none⟩) (Kd.R_far (p:=⟨gb118,1,none⟩) (Kd.R_far (p:=⟨gb118,0,none⟩) (Kd.R_types HO115.out BK118.out (by decide)) (fun _ hk=>hk.2) (.int .i64 t112)) (fun _ hk=>hk.2) (.slice Ao21 t113.length co21)) (fun _ hk=>hk.2) (.int .i64 t116)) (fun _ hk=>hk.2) (.int .i64 t117)) (fun _ h_=>h_.1))));(case side4=>exact(Kd.R_reads' HO115.out).2.1);rintro e w' ⟨rfl,⟨nd,rfl⟩⟩))
      go_ret
      exact⟨by first|rfl|(simp[*,jv,jk] <;> rfl),by repeat(first|(with_reducible first|exact HB.out|apply G|apply J|apply qq|refine qk ?_ GE111.out|refine qk ?_ GE118.out)|exact HB.out)⟩
     ·rw[if_neg c10] at H
      have c10b0:((t106.length:Int) == 0)=false:=beq_eq_false_iff_ne.mpr c10
      have c10b1:((t106.length:Int) != 0)=true:=bne_iff_ne.mpr c10
      have c10b2:¬ (t106=[]):=fun h_=>c10 (by rw[h_];rfl)
      replace H:=jq8.mp H
      obtain⟨⟨t120,t121,t122,t125,t126⟩,A230,H⟩:=H
      try dsimp only at H
      have A23:=U.mk A230
      clear A230
      replace H:=jq8.mp H
      obtain⟨t128,A240,H⟩:=H
      try dsimp only at H
      have A24:=U.mk A240
      clear A240
      replace H:=jq8.mp H
      obtain⟨t129,A250,H⟩:=H
      try dsimp only at H
      have A25:=U.mk A250
      clear A250
      by_cases c26:t129=true
      ·subst c26
       have H1:((xz.f k t120 t121 t122 t125 t126).bind fun t130=>((qjw.f k t120 t121 t122 t125 t126).bind fun t131=>(some (t130 == t131))))=some r:=by rw[if_pos rfl] at H;exact H
       clear H
       have H:=H1
       clear H1
       replace H:=jq8.mp H
       obtain⟨t130,A270,H⟩:=H
       try dsimp only at H
       have A27:=U.mk A270
       clear A270
       replace H:=jq8.mp H
       obtain⟨t131,A280,H⟩:=H
       replace H:(some (t130 == t131))=some r:=H
       have A28:=U.mk A280
       clear A280
       obtain rfl:=Option.some.inj H
       go_enter Try.func15,Try.ntmps15
       try go_wp2_with (first|((with_reducible refine jw (f:=64) rfl ?_);refine goesL_ (some 14) rfl rfl Try.func64 (by kernel_rfl) rfl #[.slice A0 l0.length c0] rfl (by(try simp only[jq0,jq1,jq2]);first|done|rfl|(simp only[jq3,jq4];rfl)) ?_;(with_reducible refine(qkq.calls k _ _ l0 t101 t102 _ ?side1 ?side2 A3.out).mono ?_);(case side1=>solve_by_elim only[HR0.out,Kd.C_alloc,Kd.C_drewN,Kd.C_drew]);(case side2=>exact HC0.out);rintro e w29 ⟨v103,rfl,ho0,hb⟩;refine⟨_,rfl,?_⟩;have HO104:=U.mk (Kd.N_lower (Kd.N_mono (ok':=fun k_=>True) ho0 (fun k_ hk_=>trivial)) (zj (by solve_by_elim only[HB.out,G,J,qq])));replace HB:=U.mk (zz (by solve_by_elim only[HB.out,G,J,qq]) hb);(try clear hb ho0);obtain⟨Ao30,co30,eo30⟩:=Kd.N_slice HO104.out;subst eo30)|((with_reducible refine jw (f:=59) rfl ?_);refine goesL_ (some 19) rfl rfl Try.func59 (by kernel_rfl) rfl #[.int .i64 t101,.slice Ao30 t102.length co30] rfl (by(try simp only[jq0,jq1,jq2]);first|done|rfl|(simp only[jq3,jq4];rfl)) ?_;(with_reducible refine(qqj.calls k t101 _ _ t102 t105 t106 t109 t110 _ ?side1 ?side2 A4.out).mono ?_);(case side1=>solve_by_elim only[(Kd.N_reads' HO104.out).2.2,Kd.C_alloc,Kd.C_drewN,Kd.C_drew]);(case side2=>exact(Kd.N_reads' HO104.out).2.1);rintro e w31 ⟨v107,rfl,ho0,hb⟩;refine⟨_,rfl,?_⟩;replace HO104:=U.mk (Kd.N_elder' (by solve_by_elim only[HO104.out,Kd.kv,Kd.kk,Kd.kw]) (Kd.R_base ho0) hb);have HO108:=U.mk (Kd.R_lower ho0 (zj (by solve_by_elim only[HB.out,G,J,qq])));replace HB:=U.mk (zz (by solve_by_elim only[HB.out,G,J,qq]) hb);(try clear hb ho0))|((with_reducible refine gate_dst (N:=5) rfl ?_);refine box_event ?hg (N:=5) ?hd (cs:=#[.int .i64 0,.slice none 0 0,.int .i64 0,.int .i64 0]) (t:=61) ?hr ?_;(case hd=>rfl);(case hg=>rfl);(case hr=>first|(go_simp;done)|(go_simp;rfl));intro gb111 hg w32 hbox hb;replace HO104:=U.mk (Kd.N_below (Kd.N_elderB (by solve_by_elim only[HO104.out,Kd.kv,Kd.kk,Kd.kw]) gb111 (Nat.le_of_eq hg.symm)) hb);replace HO108:=U.mk (Kd.R_below (by solve_by_elim only[HO108.out,Kd.zv,Kd.zk,Kd.zw]) hb);have BK111:=U.mk (hbox);have GW111:=U.mk ((by rw[hg];exact(zj (by solve_by_elim only[HB.out,G,J,qq])):w.heap.size≤gb111));have GE111:=U.mk ((by rw[hg];exact(zj (by solve_by_elim only[HB.out,G,J,qq])):w.heap.size≤gb111));replace HB:=U.mk (zz (by solve_by_elim only[HB.out,G,J,qq]) hb);clear hb hbox hg;have hcz33_0:w32.cell? ⟨gb111,0,none⟩ = some (.int .i64 0):=(qj BK111.out 0).trans rfl;have hcz33_1:w32.cell? ⟨gb111,1,none⟩ = some (.slice none 0 0):=(qj BK111.out 1).trans rfl;have hcz33_2:w32.cell? ⟨gb111,2,none⟩ = some (.int .i64 0):=(qj BK111.out 2).trans rfl;have hcz33_3:w32.cell? ⟨gb111,3,none⟩ = some (.int .i64 0):=(qj BK111.out 3).trans rfl;have hfz33_0:=qz BK111.out 0;have hfz33_1:=qz BK111.out 1;have hfz33_2:=qz BK111.out 2;have hfz33_3:=qz BK111.out 3;obtain⟨Ao34,co34,eo34⟩:=Kd.R_slice HO108.out;subst eo34)|((with_reducible refine jw (f:=58) rfl ?_);refine goesL_ (some 22) rfl rfl Try.func58 (by kernel_rfl) rfl #[.int .i64 t101,.slice Ao30 t102.length co30] rfl (by(try simp only[jq0,jq1,jq2]);first|done|rfl|(simp only[jq3,jq4];rfl)) ?_;(with_reducible refine(qkv.calls k t101 _ _ t102 t112 t113 t116 t117 _ ?side1 ?side2 A5.out).mono ?_);(case side1=>refine(Kd.N_reads' (e:=27) (base:=w.heap.size) (ok:=fun k_=>((True∧some k_≠(.slice Ao34 t106.length co34:Value).ownBlock)∧k_≠gb111)) (n:=t102.length) (c:=co30) ?_).2.2;exact(by(with_reducible repeat(first|apply Kd.kv|apply Kd.kk|apply Kd.kw));exact(Kd.N_mono (Kd.N_far (p:=⟨gb111,3,none⟩) (Kd.N_far (p:=⟨gb111,2,none⟩) (Kd.N_far (p:=⟨gb111,1,none⟩) (Kd.N_far (p:=⟨gb111,0,none⟩) (Kd.N_mono HO104.out (fun k_ hk=>(⟨hk,hk.2⟩ : _∧k_≠gb111))) (fun _ hk=>hk.2) (.int .i64 t105)) (fun _ hk=>hk.2) (.slice Ao34 t106.length co34)) (fun _ hk=>hk.2) (.int .i64 t109)) (fun _ hk=>hk.2) (.int .i64 t110)) (fun _ h_=>h_.1))));(case side2=>exact(Kd.N_reads' HO104.out).2.1);rintro e w35 ⟨v114,rfl,ho0,hb⟩;refine⟨_,rfl,?_⟩;replace HO104:=U.mk (Kd.N_elder' (by(with_reducible repeat(first|apply Kd.kv|apply Kd.kk|apply Kd.kw));exact(Kd.N_mono (Kd.N_far (p:=⟨gb111,3,none⟩) (Kd.N_far (p:=⟨gb111,2,none⟩) (Kd.N_far (p:=⟨gb111,1,none⟩) (Kd.N_far (p:=⟨gb111,0,none⟩) (Kd.N_mono HO104.out (fun k_ hk=>(⟨hk,hk.2⟩ : _∧k_≠gb111))) (fun _ hk=>hk.2) (.int .i64 t105)) (fun _ hk=>hk.2) (.slice Ao34 t106.length co34)) (fun _ hk=>hk.2) (.int .i64 t109)) (fun _ hk=>hk.2) (.int .i64 t110)) (fun _ h_=>h_.1))) (Kd.R_base ho0) hb);have HO115:=U.mk (Kd.R_lower (Kd.R_new' ho0 (Kd.R_lt (by(with_reducible repeat(first|apply Kd.zv|apply Kd.zk|apply Kd.zw));exact(Kd.R_mono (Kd.R_far (p:=⟨gb111,3,none⟩) (Kd.R_far (p:=⟨gb111,2,none⟩) (Kd.R_far (p:=⟨gb111,1,none⟩) (Kd.R_far (p:=⟨gb111,0,none⟩) (Kd.R_types HO108.out BK111.out (by decide)) (fun _ hk=>hk.2) (.int .i64 t105)) (fun _ hk=>hk.2) (.slice Ao34 t106.length co34)) (fun _ hk=>hk.2) (.int .i64 t109)) (fun _ hk=>hk.2) (.int .i64 t110)) (fun _ h_=>h_.1))))) (zj (by solve_by_elim (maxDepth:=20) only[HB.out,G,J,qq,qk,GE111.out])));replace HO108:=U.mk (Kd.R_elder' (by(with_reducible repeat(first|apply Kd.zv|apply Kd.zk|apply Kd.zw));exact(Kd.R_mono (Kd.R_far (p:=⟨gb111,3,none⟩) (Kd.R_far (p:=⟨gb111,2,none⟩) (Kd.R_far (p:=⟨gb111,1,none⟩) (Kd.R_far (p:=⟨gb111,0,none⟩) (Kd.R_types HO108.out BK111.out (by decide)) (fun _ hk=>hk.2) (.int .i64 t105)) (fun _ hk=>hk.2) (.slice Ao34 t106.length co34)) (fun _ hk=>hk.2) (.int .i64 t109)) (fun _ hk=>hk.2) (.int .i64 t110)) (fun _ h_=>h_.1))) (Kd.R_base ho0) hb);replace BK111:=U.mk (vx (g:=gb111) (o:=.cells #[.int .i64 t105,.slice Ao34 t106.length co34,.int .i64 t109,.int .i64 t110] 61 (0,0)) (by(with_reducible repeat(first|refine qw ?_ _|refine qx ?_|refine qv ?_ _));refine blk_put (cs:=#[.int .i64 t105,.slice Ao34 t106.length co34,.int .i64 t109,.int .i64 0]) ?_ 3 _ rfl;(with_reducible repeat(first|refine qw ?_ _|refine qx ?_|refine qv ?_ _));refine blk_put (cs:=#[.int .i64 t105,.slice Ao34 t106.length co34,.int .i64 0,.int .i64 0]) ?_ 2 _ rfl;(with_reducible repeat(first|refine qw ?_ _|refine qx ?_|refine qv ?_ _));refine blk_put (cs:=#[.int .i64 t105,.slice none 0 0,.int .i64 0,.int .i64 0]) ?_ 1 _ rfl;(with_reducible repeat(first|refine qw ?_ _|refine qx ?_|refine qv ?_ _));refine blk_put (cs:=#[.int .i64 0,.slice none 0 0,.int .i64 0,.int .i64 0]) ?_ 0 _ rfl;(with_reducible repeat(first|refine qw ?_ _|refine qx ?_|refine qv ?_ _));exact BK111.out) hb);replace HB:=U.mk (zz (by solve_by_elim (maxDepth:=20) only[HB.out,G,J,qq,qk,GE111.out]) hb);(try clear hb ho0))|((with_reducible refine gate_dst (N:=6) rfl ?_);refine box_event ?hg (N:=6) ?hd (cs:=#[.int .i64 0,.slice none 0 0,.int .i64 0,.int .i64 0]) (t:=61) ?hr ?_;(case hd=>rfl);(case hg=>rfl);(case hr=>first|(go_simp;done)|(go_simp;rfl));intro gb118 hg w36 hbox hb;replace HO104:=U.mk (Kd.N_below (Kd.N_elderB (by solve_by_elim only[HO104.out,Kd.kv,Kd.kk,Kd.kw]) gb118 (Nat.le_of_eq hg.symm)) hb);replace HO108:=U.mk (Kd.R_below (by solve_by_elim only[HO108.out,Kd.zv,Kd.zk,Kd.zw]) hb);replace HO115:=U.mk (Kd.R_below (by solve_by_elim only[HO115.out,Kd.zv,Kd.zk,Kd.zw]) hb);have BK118:=U.mk (hbox);have GW118:=U.mk ((by rw[hg];exact(zj (by solve_by_elim (maxDepth:=20) only[HB.out,G,J,qq,qk,GE111.out])):w.heap.size≤gb118));have GE118:=U.mk ((by rw[hg];exact(zj (by solve_by_elim (maxDepth:=20) only[HB.out,G,J,qq,qk,GE111.out])):w.heap.size≤gb118));replace HB:=U.mk (zz (by solve_by_elim (maxDepth:=20) only[HB.out,G,J,qq,qk,GE111.out]) hb);have NB111_118:=U.mk ((by rw[hg];exact Nat.ne_of_lt (blk_lt (g:=gb111) (o:=.cells #[.int .i64 t105,.slice Ao34 t106.length co34,.int .i64 t109,.int .i64 t110] 61 (0,0)) (by solve_by_elim only[BK111.out,qw,qx,qv])):gb111≠gb118));have NB118_111:=U.mk ((by rw[hg];exact Nat.ne_of_gt (blk_lt (g:=gb111) (o:=.cells #[.int .i64 t105,.slice Ao34 t106.length co34,.int .i64 t109,.int .i64 t110] 61 (0,0)) (by solve_by_elim only[BK111.out,qw,qx,qv])):gb118≠gb111));replace BK111:=U.mk (vx (g:=gb111) (o:=.cells #[.int .i64 t105,.slice Ao34 t106.length co34,.int .i64 t109,.int .i64 t110] 61 (0,0)) (by solve_by_elim only[BK111.out,qw,qx,qv]) hb);clear hb hbox hg;have hnb37:=NB118_111.out;have hnc37:=NB111_118.out;have hcz38_0:w36.cell? ⟨gb118,0,none⟩ = some (.int .i64 0):=(qj BK118.out 0).trans rfl;have hcz38_1:w36.cell? ⟨gb118,1,none⟩ = some (.slice none 0 0):=(qj BK118.out 1).trans rfl;have hcz38_2:w36.cell? ⟨gb118,2,none⟩ = some (.int .i64 0):=(qj BK118.out 2).trans rfl;have hcz38_3:w36.cell? ⟨gb118,3,none⟩ = some (.int .i64 0):=(qj BK118.out 3).trans rfl;have hfz38_0:=qz BK118.out 0;have hfz38_1:=qz BK118.out 1;have hfz38_2:=qz BK118.out 2;have hfz38_3:=qz BK118.out 3;obtain⟨Ao39,co39,eo39⟩:=Kd.R_slice HO115.out;subst eo39;have hcz40_0:w36.cell? ⟨gb111,0,none⟩ = some (.int .i64 t105):=(qj BK111.out 0).trans rfl;have hcz40_1:w36.cell? ⟨gb111,1,none⟩ = some (.slice Ao34 t106.length co34):=(qj BK111.out 1).trans rfl;have hcz40_2:w36.cell? ⟨gb111,2,none⟩ = some (.int .i64 t109):=(qj BK111.out 2).trans rfl;have hcz40_3:w36.cell? ⟨gb111,3,none⟩ = some (.int .i64 t110):=(qj BK111.out 3).trans rfl;have hfz40_0:=qz BK111.out 0;have hfz40_1:=qz BK111.out 1;have hfz40_2:=qz BK111.out 2;have hfz40_3:=qz BK111.out 3)|(go_at_call 63;(with_reducible refine(qjk.calls _ _ t106 _ _ t113 true _ ?side1 ?side2 ?side3 ?side4 A7.out).mono ?_);(case side1=>refine(Kd.R_reads' (e:=5) (base:=w.heap.size) (ok:=fun k_=>(True∧some k_≠(.slice Ao39 t113.length co39:Value).ownBlock)) (n:=t106.length) (c:=co34) ?_).2.2;exact(by(with_reducible repeat(first|apply Kd.zv|apply Kd.zk|apply Kd.zw));exact(Kd.R_mono (Kd.R_far (p:=⟨gb118,3,none⟩) (Kd.R_far (p:=⟨gb118,2,none⟩) (Kd.R_far (p:=⟨gb118,1,none⟩) (Kd.R_far (p:=⟨gb118,0,none⟩) (Kd.R_types HO108.out BK118.out (by decide)) (fun _ hk=>hk.2) (.int .i64 t112)) (fun _ hk=>hk.2) (.slice Ao39 t113.length co39)) (fun _ hk=>hk.2) (.int .i64 t116)) (fun _ hk=>hk.2) (.int .i64 t117)) (fun _ h_=>h_.1))));(case side2=>exact(Kd.R_reads' HO108.out).2.1);(case side3=>refine(Kd.R_reads' (e:=5) (base:=w.heap.size) (ok:=fun k_=>(True∧some k_≠(.slice Ao34 t106.length co34:Value).ownBlock)) (n:=t113.length) (c:=co39) ?_).2.2;exact(by(with_reducible repeat(first|apply Kd.zv|apply Kd.zk|apply Kd.zw));exact(Kd.R_mono (Kd.R_far (p:=⟨gb118,3,none⟩) (Kd.R_far (p:=⟨gb118,2,none⟩) (Kd.R_far (p:=⟨gb118,1,none⟩) (Kd.R_far (p:=⟨gb118,0,none⟩) (Kd.R_types HO115.out BK118.out (by decide)) (fun _ hk=>hk.2) (.int .i64 t112)) (fun _ hk=>hk.2) (.slice Ao39 t113.length co39)) (fun _ hk=>hk.2) (.int .i64 t116)) (fun _ hk=>hk.2) (.int .i64 t117)) (fun _ h_=>h_.1))));(case side4=>exact(Kd.R_reads' HO115.out).2.1);rintro e w' ⟨rfl,⟨nd,rfl⟩⟩)|((with_reducible refine jw (f:=65) rfl ?_);refine goesL_ (some 49) rfl rfl Try.func65 (by kernel_rfl) rfl #[.slice A0 l0.length c0] rfl (by(try simp only[jq0,jq1,jq2]);first|done|rfl|(simp only[jq3,jq4];rfl)) ?_;(with_reducible refine(qjx.calls k _ _ l0 t120 t121 t122 t125 t126 _ ?side1 ?side2 A23.out).mono ?_);(case side1=>exact Kd.C_below HR0.out (by solve_by_elim (maxDepth:=20) only[HB.out,G,J,qq,qk,GE111.out,qk,GE118.out]));(case side2=>exact HC0.out);rintro e w41 ⟨v123,rfl,ho0,hb⟩;refine⟨_,rfl,?_⟩;replace HO104:=U.mk (Kd.N_elder' (by(with_reducible repeat(first|apply Kd.kv|apply Kd.kk|apply Kd.kw));exact(Kd.N_mono (Kd.N_far (p:=⟨gb118,3,none⟩) (Kd.N_far (p:=⟨gb118,2,none⟩) (Kd.N_far (p:=⟨gb118,1,none⟩) (Kd.N_far (p:=⟨gb118,0,none⟩) (Kd.N_mono HO104.out (fun k_ hk=>(⟨hk,hk.2⟩ : _∧k_≠gb118))) (fun _ hk=>hk.2) (.int .i64 t112)) (fun _ hk=>hk.2) (.slice Ao39 t113.length co39)) (fun _ hk=>hk.2) (.int .i64 t116)) (fun _ hk=>hk.2) (.int .i64 t117)) (fun _ h_=>h_.1))) (Kd.R_base ho0) hb);have HO124:=U.mk (Kd.R_lower (Kd.R_new' (Kd.R_new' ho0 (Kd.R_lt (by(with_reducible repeat(first|apply Kd.zv|apply Kd.zk|apply Kd.zw));exact(Kd.R_mono (Kd.R_far (p:=⟨gb118,3,none⟩) (Kd.R_far (p:=⟨gb118,2,none⟩) (Kd.R_far (p:=⟨gb118,1,none⟩) (Kd.R_far (p:=⟨gb118,0,none⟩) (Kd.R_types HO108.out BK118.out (by decide)) (fun _ hk=>hk.2) (.int .i64 t112)) (fun _ hk=>hk.2) (.slice Ao39 t113.length co39)) (fun _ hk=>hk.2) (.int .i64 t116)) (fun _ hk=>hk.2) (.int .i64 t117)) (fun _ h_=>h_.1))))) (Kd.R_lt (by(with_reducible repeat(first|apply Kd.zv|apply Kd.zk|apply Kd.zw));exact(Kd.R_mono (Kd.R_far (p:=⟨gb118,3,none⟩) (Kd.R_far (p:=⟨gb118,2,none⟩) (Kd.R_far (p:=⟨gb118,1,none⟩) (Kd.R_far (p:=⟨gb118,0,none⟩) (Kd.R_types HO115.out BK118.out (by decide)) (fun _ hk=>hk.2) (.int .i64 t112)) (fun _ hk=>hk.2) (.slice Ao39 t113.length co39)) (fun _ hk=>hk.2) (.int .i64 t116)) (fun _ hk=>hk.2) (.int .i64 t117)) (fun _ h_=>h_.1))))) (zj (by solve_by_elim (maxDepth:=20) only[HB.out,G,J,qq,qk,GE111.out,qk,GE118.out])));replace HO108:=U.mk (Kd.R_elder' (by(with_reducible repeat(first|apply Kd.zv|apply Kd.zk|apply Kd.zw));exact(Kd.R_mono (Kd.R_far (p:=⟨gb118,3,none⟩) (Kd.R_far (p:=⟨gb118,2,none⟩) (Kd.R_far (p:=⟨gb118,1,none⟩) (Kd.R_far (p:=⟨gb118,0,none⟩) (Kd.R_types HO108.out BK118.out (by decide)) (fun _ hk=>hk.2) (.int .i64 t112)) (fun _ hk=>hk.2) (.slice Ao39 t113.length co39)) (fun _ hk=>hk.2) (.int .i64 t116)) (fun _ hk=>hk.2) (.int .i64 t117)) (fun _ h_=>h_.1))) (Kd.R_base ho0) hb);replace HO115:=U.mk (Kd.R_elder' (by(with_reducible repeat(first|apply Kd.zv|apply Kd.zk|apply Kd.zw));exact(Kd.R_mono (Kd.R_far (p:=⟨gb118,3,none⟩) (Kd.R_far (p:=⟨gb118,2,none⟩) (Kd.R_far (p:=⟨gb118,1,none⟩) (Kd.R_far (p:=⟨gb118,0,none⟩) (Kd.R_types HO115.out BK118.out (by decide)) (fun _ hk=>hk.2) (.int .i64 t112)) (fun _ hk=>hk.2) (.slice Ao39 t113.length co39)) (fun _ hk=>hk.2) (.int .i64 t116)) (fun _ hk=>hk.2) (.int .i64 t117)) (fun _ h_=>h_.1))) (Kd.R_base ho0) hb);replace BK111:=U.mk (vx (g:=gb111) (o:=.cells #[.int .i64 t105,.slice Ao34 t106.length co34,.int .i64 t109,.int .i64 t110] 61 (0,0)) (by(with_reducible repeat(first|refine qw ?_ _|refine qx ?_|refine qv ?_ _));refine blk_far ?_ NB111_118.out _;(with_reducible repeat(first|refine qw ?_ _|refine qx ?_|refine qv ?_ _));refine blk_far ?_ NB111_118.out _;(with_reducible repeat(first|refine qw ?_ _|refine qx ?_|refine qv ?_ _));refine blk_far ?_ NB111_118.out _;(with_reducible repeat(first|refine qw ?_ _|refine qx ?_|refine qv ?_ _));refine blk_far ?_ NB111_118.out _;(with_reducible repeat(first|refine qw ?_ _|refine qx ?_|refine qv ?_ _));exact BK111.out) hb);replace BK118:=U.mk (vx (g:=gb118) (o:=.cells #[.int .i64 t112,.slice Ao39 t113.length co39,.int .i64 t116,.int .i64 t117] 61 (0,0)) (by(with_reducible repeat(first|refine qw ?_ _|refine qx ?_|refine qv ?_ _));refine blk_put (cs:=#[.int .i64 t112,.slice Ao39 t113.length co39,.int .i64 t116,.int .i64 0]) ?_ 3 _ rfl;(with_reducible repeat(first|refine qw ?_ _|refine qx ?_|refine qv ?_ _));refine blk_put (cs:=#[.int .i64 t112,.slice Ao39 t113.length co39,.int .i64 0,.int .i64 0]) ?_ 2 _ rfl;(with_reducible repeat(first|refine qw ?_ _|refine qx ?_|refine qv ?_ _));refine blk_put (cs:=#[.int .i64 t112,.slice none 0 0,.int .i64 0,.int .i64 0]) ?_ 1 _ rfl;(with_reducible repeat(first|refine qw ?_ _|refine qx ?_|refine qv ?_ _));refine blk_put (cs:=#[.int .i64 0,.slice none 0 0,.int .i64 0,.int .i64 0]) ?_ 0 _ rfl;(with_reducible repeat(first|refine qw ?_ _|refine qx ?_|refine qv ?_ _));exact BK118.out) hb);replace HB:=U.mk (zz (by solve_by_elim (maxDepth:=20) only[HB.out,G,J,qq,qk,GE111.out,qk,GE118.out]) hb);(try clear hb ho0))|((with_reducible refine gate_dst (N:=8) rfl ?_);refine box_event ?hg (N:=8) ?hd (cs:=#[.int .i64 0,.slice none 0 0,.int .i64 0,.int .i64 0]) (t:=61) ?hr ?_;(case hd=>rfl);(case hg=>rfl);(case hr=>first|(go_simp;done)|(go_simp;rfl));intro gb127 hg w42 hbox hb;replace HO104:=U.mk (Kd.N_below (Kd.N_elderB (by solve_by_elim only[HO104.out,Kd.kv,Kd.kk,Kd.kw]) gb127 (Nat.le_of_eq hg.symm)) hb);replace HO108:=U.mk (Kd.R_below (by solve_by_elim only[HO108.out,Kd.zv,Kd.zk,Kd.zw]) hb);replace HO115:=U.mk (Kd.R_below (by solve_by_elim only[HO115.out,Kd.zv,Kd.zk,Kd.zw]) hb);replace HO124:=U.mk (Kd.R_below (by solve_by_elim only[HO124.out,Kd.zv,Kd.zk,Kd.zw]) hb);have BK127:=U.mk (hbox);have GW127:=U.mk ((by rw[hg];exact(zj (by solve_by_elim (maxDepth:=20) only[HB.out,G,J,qq,qk,GE111.out,qk,GE118.out])):w.heap.size≤gb127));have GE127:=U.mk ((by rw[hg];exact(zj (by solve_by_elim (maxDepth:=20) only[HB.out,G,J,qq,qk,GE111.out,qk,GE118.out])):w.heap.size≤gb127));replace HB:=U.mk (zz (by solve_by_elim (maxDepth:=20) only[HB.out,G,J,qq,qk,GE111.out,qk,GE118.out]) hb);have NB111_127:=U.mk ((by rw[hg];exact Nat.ne_of_lt (blk_lt (g:=gb111) (o:=.cells #[.int .i64 t105,.slice Ao34 t106.length co34,.int .i64 t109,.int .i64 t110] 61 (0,0)) (by solve_by_elim only[BK111.out,qw,qx,qv])):gb111≠gb127));have NB127_111:=U.mk ((by rw[hg];exact Nat.ne_of_gt (blk_lt (g:=gb111) (o:=.cells #[.int .i64 t105,.slice Ao34 t106.length co34,.int .i64 t109,.int .i64 t110] 61 (0,0)) (by solve_by_elim only[BK111.out,qw,qx,qv])):gb127≠gb111));replace BK111:=U.mk (vx (g:=gb111) (o:=.cells #[.int .i64 t105,.slice Ao34 t106.length co34,.int .i64 t109,.int .i64 t110] 61 (0,0)) (by solve_by_elim only[BK111.out,qw,qx,qv]) hb);have NB118_127:=U.mk ((by rw[hg];exact Nat.ne_of_lt (blk_lt (g:=gb118) (o:=.cells #[.int .i64 t112,.slice Ao39 t113.length co39,.int .i64 t116,.int .i64 t117] 61 (0,0)) (by solve_by_elim only[BK118.out,qw,qx,qv])):gb118≠gb127));have NB127_118:=U.mk ((by rw[hg];exact Nat.ne_of_gt (blk_lt (g:=gb118) (o:=.cells #[.int .i64 t112,.slice Ao39 t113.length co39,.int .i64 t116,.int .i64 t117] 61 (0,0)) (by solve_by_elim only[BK118.out,qw,qx,qv])):gb127≠gb118));replace BK118:=U.mk (vx (g:=gb118) (o:=.cells #[.int .i64 t112,.slice Ao39 t113.length co39,.int .i64 t116,.int .i64 t117] 61 (0,0)) (by solve_by_elim only[BK118.out,qw,qx,qv]) hb);clear hb hbox hg;have hnb43:=NB127_111.out;have hnc43:=NB111_127.out;have hnb44:=NB127_118.out;have hnc44:=NB118_127.out;have hcz45_0:w42.cell? ⟨gb127,0,none⟩ = some (.int .i64 0):=(qj BK127.out 0).trans rfl;have hcz45_1:w42.cell? ⟨gb127,1,none⟩ = some (.slice none 0 0):=(qj BK127.out 1).trans rfl;have hcz45_2:w42.cell? ⟨gb127,2,none⟩ = some (.int .i64 0):=(qj BK127.out 2).trans rfl;have hcz45_3:w42.cell? ⟨gb127,3,none⟩ = some (.int .i64 0):=(qj BK127.out 3).trans rfl;have hfz45_0:=qz BK127.out 0;have hfz45_1:=qz BK127.out 1;have hfz45_2:=qz BK127.out 2;have hfz45_3:=qz BK127.out 3;obtain⟨Ao46,co46,eo46⟩:=Kd.R_slice HO124.out;subst eo46))
       have n0_:U (Kd.N k27 27 ((((w42.setCell ⟨gb127,0,none⟩ (.int .i64 t121)).setCell ⟨gb127,1,none⟩ (.slice Ao46 t122.length co46)).setCell ⟨gb127,2,none⟩ (.int .i64 t125)).setCell ⟨gb127,3,none⟩ (.int .i64 t126)) w.heap.size (fun k_=>some k_≠(.slice Ao34 t106.length co34:Value).ownBlock∧some k_≠(.slice Ao39 t113.length co39:Value).ownBlock∧some k_≠(.slice Ao46 t122.length co46:Value).ownBlock∧k_≠gb111∧k_≠gb118∧k_≠gb127) (.slice Ao30 t102.length co30) t102):=⟨by(with_reducible repeat(first|apply Kd.kv|apply Kd.kk|apply Kd.kw));exact Kd.N_mono (Kd.N_far (p:=⟨gb127,3,none⟩) (Kd.N_far (p:=⟨gb127,2,none⟩) (Kd.N_far (p:=⟨gb127,1,none⟩) (Kd.N_far (p:=⟨gb127,0,none⟩) (Kd.N_mono HO104.out (fun k_ hk=>(⟨hk,hk.2⟩ : _∧k_≠gb127))) (fun _ hk=>hk.2) (.int .i64 t121)) (fun _ hk=>hk.2) (.slice Ao46 t122.length co46)) (fun _ hk=>hk.2) (.int .i64 t125)) (fun _ hk=>hk.2) (.int .i64 t126)) (fun _ hk=>⟨hk.1.1.1.1.1.1.2,⟨hk.1.1.1.1.2,⟨hk.1.1.2,⟨hk.1.1.1.1.1.2,⟨hk.1.1.1.2,hk.1.2⟩⟩⟩⟩⟩)⟩
       have n1_:U (Kd.R (Kd.int .u8) 5 ((((w42.setCell ⟨gb127,0,none⟩ (.int .i64 t121)).setCell ⟨gb127,1,none⟩ (.slice Ao46 t122.length co46)).setCell ⟨gb127,2,none⟩ (.int .i64 t125)).setCell ⟨gb127,3,none⟩ (.int .i64 t126)) w.heap.size (fun k_=>some k_≠(.slice Ao39 t113.length co39:Value).ownBlock∧some k_≠(.slice Ao46 t122.length co46:Value).ownBlock) (.slice Ao34 t106.length co34) t106):=⟨by(with_reducible repeat(first|apply Kd.zv|apply Kd.zk|apply Kd.zw));exact Kd.R_mono (Kd.R_far (p:=⟨gb127,3,none⟩) (Kd.R_far (p:=⟨gb127,2,none⟩) (Kd.R_far (p:=⟨gb127,1,none⟩) (Kd.R_far (p:=⟨gb127,0,none⟩) (Kd.R_types HO108.out BK127.out (by decide)) (fun _ hk=>hk.2) (.int .i64 t121)) (fun _ hk=>hk.2) (.slice Ao46 t122.length co46)) (fun _ hk=>hk.2) (.int .i64 t125)) (fun _ hk=>hk.2) (.int .i64 t126)) (fun _ hk=>⟨hk.1.1.2,hk.1.2⟩)⟩
       have n2_:U (Kd.R (Kd.int .u8) 5 ((((w42.setCell ⟨gb127,0,none⟩ (.int .i64 t121)).setCell ⟨gb127,1,none⟩ (.slice Ao46 t122.length co46)).setCell ⟨gb127,2,none⟩ (.int .i64 t125)).setCell ⟨gb127,3,none⟩ (.int .i64 t126)) w.heap.size (fun k_=>some k_≠(.slice Ao34 t106.length co34:Value).ownBlock∧some k_≠(.slice Ao46 t122.length co46:Value).ownBlock) (.slice Ao39 t113.length co39) t113):=⟨by(with_reducible repeat(first|apply Kd.zv|apply Kd.zk|apply Kd.zw));exact Kd.R_mono (Kd.R_far (p:=⟨gb127,3,none⟩) (Kd.R_far (p:=⟨gb127,2,none⟩) (Kd.R_far (p:=⟨gb127,1,none⟩) (Kd.R_far (p:=⟨gb127,0,none⟩) (Kd.R_types HO115.out BK127.out (by decide)) (fun _ hk=>hk.2) (.int .i64 t121)) (fun _ hk=>hk.2) (.slice Ao46 t122.length co46)) (fun _ hk=>hk.2) (.int .i64 t125)) (fun _ hk=>hk.2) (.int .i64 t126)) (fun _ hk=>⟨hk.1.1.2,hk.1.2⟩)⟩
       have n3_:U (Kd.R (Kd.int .u8) 5 ((((w42.setCell ⟨gb127,0,none⟩ (.int .i64 t121)).setCell ⟨gb127,1,none⟩ (.slice Ao46 t122.length co46)).setCell ⟨gb127,2,none⟩ (.int .i64 t125)).setCell ⟨gb127,3,none⟩ (.int .i64 t126)) w.heap.size (fun k_=>some k_≠(.slice Ao34 t106.length co34:Value).ownBlock∧some k_≠(.slice Ao39 t113.length co39:Value).ownBlock) (.slice Ao46 t122.length co46) t122):=⟨by(with_reducible repeat(first|apply Kd.zv|apply Kd.zk|apply Kd.zw));exact Kd.R_mono (Kd.R_far (p:=⟨gb127,3,none⟩) (Kd.R_far (p:=⟨gb127,2,none⟩) (Kd.R_far (p:=⟨gb127,1,none⟩) (Kd.R_far (p:=⟨gb127,0,none⟩) (Kd.R_types HO124.out BK127.out (by decide)) (fun _ hk=>hk.2) (.int .i64 t121)) (fun _ hk=>hk.2) (.slice Ao46 t122.length co46)) (fun _ hk=>hk.2) (.int .i64 t125)) (fun _ hk=>hk.2) (.int .i64 t126)) (fun _ hk=>⟨hk.1.1.2,hk.1.2⟩)⟩
       have n4_:U (((((w42.setCell ⟨gb127,0,none⟩ (.int .i64 t121)).setCell ⟨gb127,1,none⟩ (.slice Ao46 t122.length co46)).setCell ⟨gb127,2,none⟩ (.int .i64 t125)).setCell ⟨gb127,3,none⟩ (.int .i64 t126)).heap[gb111]? = some (.cells #[.int .i64 t105,.slice Ao34 t106.length co34,.int .i64 t109,.int .i64 t110] 61 (0,0))):=⟨by(with_reducible repeat(first|refine qw ?_ _|refine qx ?_|refine qv ?_ _));refine blk_far ?_ NB111_127.out _;(with_reducible repeat(first|refine qw ?_ _|refine qx ?_|refine qv ?_ _));refine blk_far ?_ NB111_127.out _;(with_reducible repeat(first|refine qw ?_ _|refine qx ?_|refine qv ?_ _));refine blk_far ?_ NB111_127.out _;(with_reducible repeat(first|refine qw ?_ _|refine qx ?_|refine qv ?_ _));refine blk_far ?_ NB111_127.out _;(with_reducible repeat(first|refine qw ?_ _|refine qx ?_|refine qv ?_ _));exact BK111.out⟩
       have n5_:U (((((w42.setCell ⟨gb127,0,none⟩ (.int .i64 t121)).setCell ⟨gb127,1,none⟩ (.slice Ao46 t122.length co46)).setCell ⟨gb127,2,none⟩ (.int .i64 t125)).setCell ⟨gb127,3,none⟩ (.int .i64 t126)).heap[gb118]? = some (.cells #[.int .i64 t112,.slice Ao39 t113.length co39,.int .i64 t116,.int .i64 t117] 61 (0,0))):=⟨by(with_reducible repeat(first|refine qw ?_ _|refine qx ?_|refine qv ?_ _));refine blk_far ?_ NB118_127.out _;(with_reducible repeat(first|refine qw ?_ _|refine qx ?_|refine qv ?_ _));refine blk_far ?_ NB118_127.out _;(with_reducible repeat(first|refine qw ?_ _|refine qx ?_|refine qv ?_ _));refine blk_far ?_ NB118_127.out _;(with_reducible repeat(first|refine qw ?_ _|refine qx ?_|refine qv ?_ _));refine blk_far ?_ NB118_127.out _;(with_reducible repeat(first|refine qw ?_ _|refine qx ?_|refine qv ?_ _));exact BK118.out⟩
       have n6_:U (((((w42.setCell ⟨gb127,0,none⟩ (.int .i64 t121)).setCell ⟨gb127,1,none⟩ (.slice Ao46 t122.length co46)).setCell ⟨gb127,2,none⟩ (.int .i64 t125)).setCell ⟨gb127,3,none⟩ (.int .i64 t126)).heap[gb127]? = some (.cells #[.int .i64 t121,.slice Ao46 t122.length co46,.int .i64 t125,.int .i64 t126] 61 (0,0))):=⟨by(with_reducible repeat(first|refine qw ?_ _|refine qx ?_|refine qv ?_ _));refine blk_put (cs:=#[.int .i64 t121,.slice Ao46 t122.length co46,.int .i64 t125,.int .i64 0]) ?_ 3 _ rfl;(with_reducible repeat(first|refine qw ?_ _|refine qx ?_|refine qv ?_ _));refine blk_put (cs:=#[.int .i64 t121,.slice Ao46 t122.length co46,.int .i64 0,.int .i64 0]) ?_ 2 _ rfl;(with_reducible repeat(first|refine qw ?_ _|refine qx ?_|refine qv ?_ _));refine blk_put (cs:=#[.int .i64 t121,.slice none 0 0,.int .i64 0,.int .i64 0]) ?_ 1 _ rfl;(with_reducible repeat(first|refine qw ?_ _|refine qx ?_|refine qv ?_ _));refine blk_put (cs:=#[.int .i64 0,.slice none 0 0,.int .i64 0,.int .i64 0]) ?_ 0 _ rfl;(with_reducible repeat(first|refine qw ?_ _|refine qx ?_|refine qv ?_ _));exact BK127.out⟩
       have n7_:U (Below w.heap.size w ((((w42.setCell ⟨gb127,0,none⟩ (.int .i64 t121)).setCell ⟨gb127,1,none⟩ (.slice Ao46 t122.length co46)).setCell ⟨gb127,2,none⟩ (.int .i64 t125)).setCell ⟨gb127,3,none⟩ (.int .i64 t126))):=⟨by repeat(first|(with_reducible first|exact HB.out|apply G|apply J|apply qq|refine qk ?_ GE111.out|refine qk ?_ GE118.out|refine qk ?_ GE127.out)|exact HB.out)⟩
       (try clear HO104)
       (try clear HO108)
       (try clear HO115)
       (try clear HO124)
       (try clear BK111)
       (try clear BK118)
       (try clear BK127)
       (try clear HB)
       generalize ((((w42.setCell ⟨gb127,0,none⟩ (.int .i64 t121)).setCell ⟨gb127,1,none⟩ (.slice Ao46 t122.length co46)).setCell ⟨gb127,2,none⟩ (.int .i64 t125)).setCell ⟨gb127,3,none⟩ (.int .i64 t126))=w47 at n0_ n1_ n2_ n3_ n4_ n5_ n6_ n7_ ⊢
       have HO104:=n0_
       have HO108:=n1_
       have HO115:=n2_
       have HO124:=n3_
       have BK111:=n4_
       have BK118:=n5_
       have BK127:=n6_
       have HB:=n7_
       clear n0_ n1_ n2_ n3_ n4_ n5_ n6_ n7_
       replace HO104:=U.mk (Kd.kw HO104.out)
       replace HO108:=U.mk (Kd.zw HO108.out)
       replace HO115:=U.mk (Kd.zw HO115.out)
       replace HO124:=U.mk (Kd.zw HO124.out)
       replace BK111:=U.mk (qx BK111.out)
       replace BK118:=U.mk (qx BK118.out)
       replace BK127:=U.mk (qx BK127.out)
       replace HB:=U.mk (qq HB.out)
       refine start_ (n:=14) (S:=fun w'=>w'.cell? ⟨gb111,0,none⟩ = some (.int .i64 t105)∧w'.cell? ⟨gb111,1,none⟩ = some (.slice Ao34 t106.length co34)∧w'.cell? ⟨gb111,2,none⟩ = some (.int .i64 t109)∧w'.cell? ⟨gb111,3,none⟩ = some (.int .i64 t110)∧w'.cell? ⟨gb127,0,none⟩ = some (.int .i64 t121)∧w'.cell? ⟨gb127,1,none⟩ = some (.slice Ao46 t122.length co46)∧w'.cell? ⟨gb127,2,none⟩ = some (.int .i64 t125)∧w'.cell? ⟨gb127,3,none⟩ = some (.int .i64 t126)) (ds:=[]) #[Y,Y,Y,Y,Y,Y,Y,Y,Y,Y,Y,Y,Y,Y] (by kernel_rfl) rfl rfl ⟨(qj BK111.out 0).trans rfl,(qj BK111.out 1).trans rfl,(qj BK111.out 2).trans rfl,(qj BK111.out 3).trans rfl,(qj BK127.out 0).trans rfl,(qj BK127.out 1).trans rfl,(qj BK127.out 2).trans rfl,(qj BK127.out 3).trans rfl⟩ (fun hHeld=>?_);refine with_tabW qjj.tab11 qjj.bits11 (fun HT_ HW_=>?_)
       generalize w47.drew=w48 at HO104 HO108 HO115 HO124 BK111 BK118 BK127 HB hHeld ⊢
       refine pure_ (i:=0) (N:=some 52) (v:=?_) (a':=?_) #[Z,Y,Y,Y,Y,Y,Y,Y,Y,Y,Y,Y,Y,Y] rfl rfl (any_of HT_.out (by kernel_rfl)) (fun _ _ _ h=>h) (Or.inl ⟨by rfl,?_⟩) ?_ ?_
       rotate_left
       ·intro w'
        go_simp
        with_reducible rfl
       rotate_left
       ·simp only[Act.put,jq5,jq6,jq7,i64_w,i32_w]
        rfl
       refine take_ (i:=2) (N:=some 54) (v:=?_) (a':=?_) #[Z,Y,Z,Y,Y,Y,Y,Y,Y,Y,Y,Y,Y,Y] rfl rfl (take_ofW HT_.out HW_.out (by kernel_rfl)) (fun _ _ _ h=>h) (Or.inl ⟨by rfl,?_⟩) hHeld ?_ ?_
       rotate_left
       ·rintro w' ⟨s0,s1,s2,s3,s4,s5,s6,s7⟩
        go_simp
        with_reducible rfl
       rotate_left
       ·simp only[Act.put,jq5,jq6,jq7,i64_w,i32_w]
        rfl
       refine one_ (i:=1) (N:=some 53) #[Z,Z,Z,Y,Y,Y,Y,Y,Y,Y,Y,Y,Y,Y] rfl rfl (one_of HT_.out (by kernel_rfl)) (by decide) (fun K hK=>?_)
       refine goes_ Try.func66 (by kernel_rfl) rfl #[.int .i64 t101] (by rfl) rfl rfl (by(try simp only[jq0,jq1,jq2]);first|done|rfl|(simp only[jq3,jq4];rfl)) ?_
       with_reducible refine(qkj.calls k t101 t128 _ A24.out).mono ?_
       rintro e w' ⟨rfl,⟨nd,rfl⟩⟩
       refine⟨_,rfl,?_⟩
       refine hK.out _ _ ⟨(qj BK111.out 0).trans rfl,(qj BK111.out 1).trans rfl,(qj BK111.out 2).trans rfl,(qj BK111.out 3).trans rfl,(qj BK127.out 0).trans rfl,(qj BK127.out 1).trans rfl,(qj BK127.out 2).trans rfl,(qj BK127.out 3).trans rfl⟩ (fun hHeld=>?_)
       clear hK K
       refine norm_ (a':=?_) ?_ ?_
       rotate_left
       ·show Act.put _ (some 53) _=_
        simp only[Act.put,jq5,jq6,jq7,i64_w,i32_w]
        rfl
       refine one_ (i:=3) (N:=some 55) #[Z,Z,Z,Z,Y,Y,Y,Y,Y,Y,Y,Y,Y,Y] rfl rfl (one_of HT_.out (by kernel_rfl)) (by decide) (fun K hK=>?_)
       refine goes_ Try.func56 (by kernel_rfl) rfl #[.int .i64 t128,.agg #[.int .i64 t105,.slice Ao34 t106.length co34,.int .i64 t109,.int .i64 t110]] (by rfl) rfl rfl (by(try simp only[jq0,jq1,jq2]);first|done|rfl|(simp only[jq3,jq4];rfl)) ?_
       with_reducible refine(xz.calls k t128 t105 (fun k_=>some k_=(.slice Ao34 t106.length co34:Value).ownBlock) _ _ t106 t109 t110 true _ ?side1 A25.out).mono ?_
       (case side1=>exact Kd.R_V (Kd.R_tight rfl (Kd.R_types (Kd.R_types (Kd.R_types (Kd.R_apart' (HO108.out) (Kd.N_typed HO104.out) (by decide)) BK111.out (by decide)) BK118.out (by decide)) BK127.out (by decide))))
       rintro e w49 ⟨rfl,hb⟩
       refine⟨_,rfl,?_⟩
       replace HO104:=U.mk (Kd.N_below (by solve_by_elim only[HO104.out,Kd.kv,Kd.kk,Kd.kw]) hb)
       replace HO108:=U.mk (Kd.R_below (by solve_by_elim only[HO108.out,Kd.zv,Kd.zk,Kd.zw]) hb)
       replace HO115:=U.mk (Kd.R_below (by solve_by_elim only[HO115.out,Kd.zv,Kd.zk,Kd.zw]) hb)
       replace HO124:=U.mk (Kd.R_below (by solve_by_elim only[HO124.out,Kd.zv,Kd.zk,Kd.zw]) hb)
       replace BK111:=U.mk (vx (g:=gb111) (o:=.cells #[.int .i64 t105,.slice Ao34 t106.length co34,.int .i64 t109,.int .i64 t110] 61 (0,0)) (by solve_by_elim only[BK111.out,qw,qx,qv]) hb)
       replace BK118:=U.mk (vx (g:=gb118) (o:=.cells #[.int .i64 t112,.slice Ao39 t113.length co39,.int .i64 t116,.int .i64 t117] 61 (0,0)) (by solve_by_elim only[BK118.out,qw,qx,qv]) hb)
       replace BK127:=U.mk (vx (g:=gb127) (o:=.cells #[.int .i64 t121,.slice Ao46 t122.length co46,.int .i64 t125,.int .i64 t126] 61 (0,0)) (by solve_by_elim only[BK127.out,qw,qx,qv]) hb)
       replace HB:=U.mk (zz (by solve_by_elim (maxDepth:=20) only[HB.out,G,J,qq,qk,GE111.out,qk,GE118.out,qk,GE127.out]) hb)
       (try clear hb)
       (try clear hb2)
       (try clear hk)
       (try clear hi)
       refine hK.out _ _ ⟨(qj BK111.out 0).trans rfl,(qj BK111.out 1).trans rfl,(qj BK111.out 2).trans rfl,(qj BK111.out 3).trans rfl,(qj BK127.out 0).trans rfl,(qj BK127.out 1).trans rfl,(qj BK127.out 2).trans rfl,(qj BK127.out 3).trans rfl⟩ (fun hHeld=>?_)
       clear hK K
       refine norm_ (a':=?_) ?_ ?_
       rotate_left
       ·show Act.put _ (some 55) _=_
        simp only[Act.put,jq5,jq6,jq7,i64_w,i32_w]
        rfl
       refine pure_ (i:=4) (N:=some 56) (v:=?_) (a':=?_) #[Z,Z,Z,Z,Z,Y,Y,Y,Y,Y,Y,Y,Y,Y] rfl rfl (any_of HT_.out (by kernel_rfl)) (fun _ _ _ h=>h) (Or.inl ⟨by rfl,?_⟩) ?_ ?_
       rotate_left
       ·intro w'
        go_simp
        with_reducible rfl
       rotate_left
       ·simp only[Act.put,jq5,jq6,jq7,i64_w,i32_w]
        rfl
       refine pure_ (i:=5) (N:=some 57) (v:=?_) (a':=?_) #[Z,Z,Z,Z,Z,Z,Y,Y,Y,Y,Y,Y,Y,Y] rfl rfl (any_of HT_.out (by kernel_rfl)) (fun _ _ _ h=>h) (Or.inl ⟨by rfl,?_⟩) ?_ ?_
       rotate_left
       ·intro w'
        go_simp
        with_reducible rfl
       rotate_left
       ·simp only[Act.put,jq5,jq6,jq7,i64_w,i32_w]
        rfl
       refine pure_ (i:=8) (N:=some 60) (v:=?_) (a':=?_) #[Z,Z,Z,Z,Z,Z,Y,Y,Z,Y,Y,Y,Y,Y] rfl rfl (any_of HT_.out (by kernel_rfl)) (fun _ _ _ h=>h) (Or.inl ⟨by rfl,?_⟩) ?_ ?_
       rotate_left
       ·intro w'
        go_simp
        with_reducible rfl
       rotate_left
       ·simp only[Act.put,jq5,jq6,jq7,i64_w,i32_w]
        rfl
       refine take_ (i:=6) (N:=some 58) (v:=?_) (a':=?_) #[Z,Z,Z,Z,Z,Z,Z,Y,Z,Y,Y,Y,Y,Y] rfl rfl (take_ofW HT_.out HW_.out (by kernel_rfl)) (fun _ _ _ h=>h) (Or.inl ⟨by rfl,?_⟩) hHeld ?_ ?_
       rotate_left
       ·rintro w' ⟨s0,s1,s2,s3,s4,s5,s6,s7⟩
        go_simp
        with_reducible rfl
       rotate_left
       ·simp only[Act.put,jq5,jq6,jq7,i64_w,i32_w]
        rfl
       refine take_ (i:=9) (N:=some 61) (v:=?_) (a':=?_) #[Z,Z,Z,Z,Z,Z,Z,Y,Z,Z,Y,Y,Y,Y] rfl rfl (take_ofW HT_.out HW_.out (by kernel_rfl)) (fun _ _ _ h=>h) (Or.inl ⟨by rfl,?_⟩) hHeld ?_ ?_
       rotate_left
       ·rintro w' ⟨s0,s1,s2,s3,s4,s5,s6,s7⟩
        go_simp
        with_reducible rfl
       rotate_left
       ·simp only[Act.put,jq5,jq6,jq7,i64_w,i32_w]
        rfl
       refine one_ (i:=7) (N:=some 59) #[Z,Z,Z,Z,Z,Z,Z,Z,Z,Z,Y,Y,Y,Y] rfl rfl (one_of HT_.out (by kernel_rfl)) (by decide) (fun K hK=>?_)
       refine goes_ Try.func56 (by kernel_rfl) rfl #[.int .i64 t120,.agg #[.int .i64 t121,.slice Ao46 t122.length co46,.int .i64 t125,.int .i64 t126]] (by rfl) rfl rfl (by(try simp only[jq0,jq1,jq2]);first|done|rfl|(simp only[jq3,jq4];rfl)) ?_
       with_reducible refine(xz.calls k t120 t121 (fun k_=>some k_=(.slice Ao46 t122.length co46:Value).ownBlock) _ _ t122 t125 t126 t130 _ ?side1 A27.out).mono ?_
       (case side1=>exact Kd.R_V (Kd.R_tight rfl (Kd.R_types (Kd.R_types (Kd.R_types (Kd.R_apart' (HO124.out) (Kd.N_typed HO104.out) (by decide)) BK111.out (by decide)) BK118.out (by decide)) BK127.out (by decide))))
       rintro e w50 ⟨rfl,hb⟩
       refine⟨_,rfl,?_⟩
       replace HO104:=U.mk (Kd.N_below (by solve_by_elim only[HO104.out,Kd.kv,Kd.kk,Kd.kw]) hb)
       replace HO108:=U.mk (Kd.R_below (by solve_by_elim only[HO108.out,Kd.zv,Kd.zk,Kd.zw]) hb)
       replace HO115:=U.mk (Kd.R_below (by solve_by_elim only[HO115.out,Kd.zv,Kd.zk,Kd.zw]) hb)
       replace HO124:=U.mk (Kd.R_below (by solve_by_elim only[HO124.out,Kd.zv,Kd.zk,Kd.zw]) hb)
       replace BK111:=U.mk (vx (g:=gb111) (o:=.cells #[.int .i64 t105,.slice Ao34 t106.length co34,.int .i64 t109,.int .i64 t110] 61 (0,0)) (by solve_by_elim only[BK111.out,qw,qx,qv]) hb)
       replace BK118:=U.mk (vx (g:=gb118) (o:=.cells #[.int .i64 t112,.slice Ao39 t113.length co39,.int .i64 t116,.int .i64 t117] 61 (0,0)) (by solve_by_elim only[BK118.out,qw,qx,qv]) hb)
       replace BK127:=U.mk (vx (g:=gb127) (o:=.cells #[.int .i64 t121,.slice Ao46 t122.length co46,.int .i64 t125,.int .i64 t126] 61 (0,0)) (by solve_by_elim only[BK127.out,qw,qx,qv]) hb)
       replace HB:=U.mk (zz (by solve_by_elim (maxDepth:=20) only[HB.out,G,J,qq,qk,GE111.out,qk,GE118.out,qk,GE127.out]) hb)
       (try clear hb)
       (try clear hb2)
       (try clear hk)
       (try clear hi)
       refine hK.out _ _ ⟨(qj BK111.out 0).trans rfl,(qj BK111.out 1).trans rfl,(qj BK111.out 2).trans rfl,(qj BK111.out 3).trans rfl,(qj BK127.out 0).trans rfl,(qj BK127.out 1).trans rfl,(qj BK127.out 2).trans rfl,(qj BK127.out 3).trans rfl⟩ (fun hHeld=>?_)
       clear hK K
       refine norm_ (a':=?_) ?_ ?_
       rotate_left
       ·show Act.put _ (some 59) _=_
        simp only[Act.put,jq5,jq6,jq7,i64_w,i32_w]
        rfl
       refine one_ (i:=10) (N:=some 62) #[Z,Z,Z,Z,Z,Z,Z,Z,Z,Z,Z,Y,Y,Y] rfl rfl (one_of HT_.out (by kernel_rfl)) (by decide) (fun K hK=>?_)
       refine goes_ Try.func54 (by kernel_rfl) rfl #[.int .i64 t120,.agg #[.int .i64 t121,.slice Ao46 t122.length co46,.int .i64 t125,.int .i64 t126]] (by rfl) rfl rfl (by(try simp only[jq0,jq1,jq2]);first|done|rfl|(simp only[jq3,jq4];rfl)) ?_
       with_reducible refine(qjw.calls k t120 t121 _ _ t122 t125 t126 t131 _ ?side1 ?side2 A28.out).mono ?_
       (case side1=>solve_by_elim only[(Kd.R_reads' HO124.out).2.2,Kd.C_alloc,Kd.C_drewN,Kd.C_drew])
       (case side2=>exact(Kd.R_reads' HO124.out).2.1)
       rintro e w51 ⟨rfl,hb⟩
       refine⟨_,rfl,?_⟩
       replace HO104:=U.mk (Kd.N_below (by solve_by_elim only[HO104.out,Kd.kv,Kd.kk,Kd.kw]) hb)
       replace HO108:=U.mk (Kd.R_below (by solve_by_elim only[HO108.out,Kd.zv,Kd.zk,Kd.zw]) hb)
       replace HO115:=U.mk (Kd.R_below (by solve_by_elim only[HO115.out,Kd.zv,Kd.zk,Kd.zw]) hb)
       replace HO124:=U.mk (Kd.R_below (by solve_by_elim only[HO124.out,Kd.zv,Kd.zk,Kd.zw]) hb)
       replace BK111:=U.mk (vx (g:=gb111) (o:=.cells #[.int .i64 t105,.slice Ao34 t106.length co34,.int .i64 t109,.int .i64 t110] 61 (0,0)) (by solve_by_elim only[BK111.out,qw,qx,qv]) hb)
       replace BK118:=U.mk (vx (g:=gb118) (o:=.cells #[.int .i64 t112,.slice Ao39 t113.length co39,.int .i64 t116,.int .i64 t117] 61 (0,0)) (by solve_by_elim only[BK118.out,qw,qx,qv]) hb)
       replace BK127:=U.mk (vx (g:=gb127) (o:=.cells #[.int .i64 t121,.slice Ao46 t122.length co46,.int .i64 t125,.int .i64 t126] 61 (0,0)) (by solve_by_elim only[BK127.out,qw,qx,qv]) hb)
       replace HB:=U.mk (zz (by solve_by_elim (maxDepth:=20) only[HB.out,G,J,qq,qk,GE111.out,qk,GE118.out,qk,GE127.out]) hb)
       (try clear hb)
       (try clear hb2)
       (try clear hk)
       (try clear hi)
       refine hK.out _ _ ⟨(qj BK111.out 0).trans rfl,(qj BK111.out 1).trans rfl,(qj BK111.out 2).trans rfl,(qj BK111.out 3).trans rfl,(qj BK127.out 0).trans rfl,(qj BK127.out 1).trans rfl,(qj BK127.out 2).trans rfl,(qj BK127.out 3).trans rfl⟩ (fun hHeld=>?_)
       clear hK K
       refine norm_ (a':=?_) ?_ ?_
       rotate_left
       ·show Act.put _ (some 62) _=_
        simp only[Act.put,jq5,jq6,jq7,i64_w,i32_w]
        rfl
       refine pure_ (i:=11) (N:=some 63) (v:=?_) (a':=?_) #[Z,Z,Z,Z,Z,Z,Z,Z,Z,Z,Z,Z,Y,Y] rfl rfl (any_of HT_.out (by kernel_rfl)) (fun _ _ _ h=>h) (Or.inl ⟨by rfl,?_⟩) ?_ ?_
       rotate_left
       ·intro w'
        go_simp
        with_reducible rfl
       rotate_left
       ·simp only[Act.put,jq5,jq6,jq7,i64_w,i32_w]
        rfl
       refine pure_ (i:=12) (N:=some 64) (v:=?_) (a':=?_) #[Z,Z,Z,Z,Z,Z,Z,Z,Z,Z,Z,Z,Z,Y] rfl rfl (any_of HT_.out (by kernel_rfl)) (fun _ _ _ h=>h) (Or.inl ⟨by rfl,?_⟩) ?_ ?_
       rotate_left
       ·intro w'
        go_simp
        with_reducible rfl
       rotate_left
       ·simp only[Act.put,jq5,jq6,jq7,i64_w,i32_w]
        rfl
       refine pure_ (i:=13) (N:=some 2) (v:=?_) (a':=?_) #[Z,Z,Z,Z,Z,Z,Z,Z,Z,Z,Z,Z,Z,Z] rfl rfl (any_of HT_.out (by kernel_rfl)) (fun _ _ _ h=>h) (Or.inl ⟨by rfl,?_⟩) ?_ ?_
       rotate_left
       ·intro w'
        go_simp
        with_reducible rfl
       rotate_left
       ·simp only[Act.put,jq5,jq6,jq7,i64_w,i32_w]
        rfl
       refine done_ (done_of HT_.out (by kernel_rfl)) ?_
       try go_wp2
       go_ret
       exact⟨by first|rfl|(simp[*,jv,jk] <;> rfl),by repeat(first|(with_reducible first|exact HB.out|apply G|apply J|apply qq|refine qk ?_ GE111.out|refine qk ?_ GE118.out|refine qk ?_ GE127.out)|exact HB.out)⟩
      ·replace c26:=jq9.mpr c26
       subst c26
       have H1:(none)=some r:=by rw[if_neg (show ¬ (false=true) by decide)] at H;exact H
       clear H
       have H:=H1
       clear H1
       exact absurd H (by simp)
   ·replace c8:=jq9.mpr c8
    subst c8
    have H1:(none)=some r:=by rw[if_neg (show ¬ (false=true) by decide)] at H;exact H
    clear H
    have H:=H1
    clear H1
    exact absurd H (by simp)
  ·rw[if_neg c6] at H
   exact absurd H (by simp)
open Go.RowKit Go.Proofs.Ytipdkendfcopiaa.Read Go.Proofs.YtipdkendfcopiaaW.PrintWords
def qjj.Pure:Prop:=∀ (l0:(List Int)),(okL okB) l0→∃ k,qjj.f k l0=some true
theorem w64 {n:Int} (h0 : -9223372036854775808≤n) (h1:n≤9223372036854775807):wrap64 n=n:=by unfold wrap64;omega
theorem rd_nat {l:List Int} {i:Nat} (h:i < l.length):rd l (i:Int)=l[i]:=by
 simp[rd,List.getD_eq_getElem?_getD,List.getElem?_eq_getElem h]
def prtN (s:ByteArray):Nat→Bool
 | 0=>true
 | d + 1=>if bt s ((s.size - (d + 1):Nat):Int) < 32 then false else if bt s ((s.size - (d + 1):Nat):Int) > 126 then false else prtN s d
def prt (s:ByteArray):Bool:=prtN s s.size
theorem l1Printed_l0 (s:ByteArray) (hs:s.size≤9223372036854775807) (d:Nat):∀ (k i:Nat),s.size - i=d→i≤s.size→d < k→qwj.l0 k s i=some (prtN s d):=by
 induction d with
 | zero =>
  intro k i hd hi hk
  obtain⟨k,rfl⟩ : ∃ m,k=m + 1:=⟨k - 1,by omega⟩
  simp only[qwj.l0]
  rw[if_neg (by omega)];rfl
 | succ d ih =>
  intro k i hd hi hk
  obtain⟨k,rfl⟩ : ∃ m,k=m + 1:=⟨k - 1,by omega⟩
  have e0:s.size - (d + 1)=i:=by omega
  simp only[qwj.l0,prtN,e0]
  rw[if_pos (by omega),if_pos (by omega),w64 (by omega) (by omega),show((i:Int) + 1)=((i + 1:Nat):Int) from rfl,ih k (i + 1) (by omega) (by omega) (by omega)]
  split
  ·rfl
  ·split <;> rfl
theorem l1Printed_eq (s:ByteArray) (hs:s.size≤9223372036854775807) (k:Nat) (hk:s.size < k):qwj.f k s=some (prt s) :=
 l1Printed_l0 s hs s.size k 0 (by omega) (by omega) hk
theorem yprinted_l0 (s:ByteArray) (hs:s.size≤9223372036854775807) (d:Nat):∀ (k i:Nat),s.size - i=d→i≤s.size→d < k→qzw.l0 k s (s.size:Int) i=some (prtN s d):=by
 induction d with
 | zero =>
  intro k i hd hi hk
  obtain⟨k,rfl⟩ : ∃ m,k=m + 1:=⟨k - 1,by omega⟩
  simp only[qzw.l0]
  rw[if_neg (by omega)];rfl
 | succ d ih =>
  intro k i hd hi hk
  obtain⟨k,rfl⟩ : ∃ m,k=m + 1:=⟨k - 1,by omega⟩
  have e0:s.size - (d + 1)=i:=by omega
  simp only[qzw.l0,prtN,e0]
  rw[if_pos (by omega),if_pos (by omega),if_pos (by omega),w64 (by omega) (by omega),show((i:Int) + 1)=((i + 1:Nat):Int) from rfl,ih k (i + 1) (by omega) (by omega) (by omega)]
  split
  ·rfl
  ·split <;> rfl
theorem yprinted_eq (s:ByteArray) (lo hi:Int) (hs:s.size≤9223372036854775807) (k:Nat) (hk:s.size + 1 < k):qzw.f k s lo hi=some (decide (lo≤s.size) && decide ((s.size:Int)≤hi) && prt s):=by
 obtain⟨k,rfl⟩ : ∃ m,k=m + 1:=⟨k - 1,by omega⟩
 unfold qzw.f
 have e:=yprinted_l0 s hs s.size k 0 (by omega) (by omega) (by omega)
 by_cases h1:(s.size:Int) < lo
 ·rw[if_pos h1]
  simp only[qzw.j0,if_true]
  simp;omega
 ·rw[if_neg h1]
  have h1':decide (lo≤(s.size:Int))=true:=decide_eq_true (by omega)
  by_cases h2:(s.size:Int)≤hi
  ·have h2':decide ((s.size:Int) > hi)=false:=decide_eq_false (by omega)
   have h2'':decide ((s.size:Int)≤hi)=true:=decide_eq_true h2
   rw[h1',h2',h2'']
   simp only[qzw.j0,Bool.false_eq_true,if_false,Bool.true_and]
   exact e
  ·have h2':decide ((s.size:Int) > hi)=true:=decide_eq_true (by omega)
   have h2'':decide ((s.size:Int)≤hi)=false:=decide_eq_false h2
   rw[h1',h2',h2'']
   simp[qzw.j0]
def goodEntry (t:Int) (who what:ByteArray) (salt cover:List Int):Bool :=
 if t < 0 then false else if t > 100000000000 then false else if (who.size:Int) > 60 then false else if prt who=false then false else
 if cover.length=0 then(decide ((what.size:Int)≤200) && prt what && decide ((salt.length:Int)≤20))
 else decide (cover.length=16) && decide (what.toList=([]:List UInt8)) && decide (salt.length=0)
theorem specGood_eq (t:Int) (who what:ByteArray) (salt cover:List Int) (h1:okS who) (h2:okS what) (k:Nat) (hk:who.size + what.size + 1 < k):qkz.f k t who what salt cover=some (goodEntry t who what salt cover):=by
 unfold okS at h1 h2
 obtain⟨k,rfl⟩ : ∃ m,k=m + 1:=⟨k - 1,by omega⟩
 unfold qkz.f goodEntry
 have bad:qkz.j0 (k + 1) true t who what salt cover=some false:=by simp[qkz.j0]
 rw[bad]
 split;· rfl
 split;· rfl
 split;· rfl
 rw[l1Printed_eq who h1 (k + 1) (by omega)]
 simp only[Option.bind_some]
 cases prt who with
 | false=>exact bad
 | true =>
  simp only[Bool.not_true,qkz.j0,Bool.false_eq_true,if_false,qxz.f,Option.bind_some,beq_iff_eq,reduceCtorEq]
  by_cases hc:cover.length=0
  ·rw[if_pos (by omega),if_pos hc]
   by_cases hw:(what.size:Int)≤200
   ·rw[if_pos hw,l1Printed_eq what h2 k (by omega)]
    simp only[Option.bind_some]
    cases prt what <;> simp[hw]
   ·rw[if_neg hw];simp[hw]
  ·rw[if_neg (by omega),if_neg hc]
   by_cases hc2:cover.length=16
   ·rw[if_pos (by omega)]
    by_cases hw:what.toList=[]
    ·rw[if_pos hw]
     simp only[hc2,hw,decide_true,Bool.true_and,Option.some.injEq]
     rw[Bool.eq_iff_iff];simp
    ·rw[if_neg hw];simp[hw]
   ·rw[if_neg (by omega)];simp[hc2]
theorem implGood_eq (t:Int) (who what:ByteArray) (salt cover:List Int) (h1:okS who) (h2:okS what) (k:Nat) (hk:who.size + what.size + 3 < k):xv.f k t who what salt cover=some (goodEntry t who what salt cover):=by
 unfold okS at h1 h2
 obtain⟨k,rfl⟩ : ∃ m,k=m + 1:=⟨k - 1,by omega⟩
 unfold xv.f goodEntry
 have bad:xv.j0 (k + 1) true t who what salt cover=some false:=by simp[xv.j0]
 rw[bad]
 split;· rfl
 split;· rfl
 rw[yprinted_eq who 0 60 h1 (k + 1) (by omega)]
 simp only[Option.bind_some]
 by_cases h60:(who.size:Int) > 60
 ·rw[if_pos h60]
  have:decide ((who.size:Int)≤60)=false:=decide_eq_false (by omega)
  rw[this]
  simpa using bad
 rw[if_neg h60]
 have e60:decide ((who.size:Int)≤60)=true:=decide_eq_true (by omega)
 have e0:decide ((0:Int)≤(who.size:Int))=true:=decide_eq_true (by omega)
 rw[e60,e0]
 simp only[Bool.true_and]
 cases prt who with
 | false=>exact bad
 | true =>
  simp only[Bool.not_true,xv.j0,Bool.false_eq_true,if_false,reduceCtorEq]
  by_cases hc:cover.length=0
  ·rw[if_pos (by omega),if_pos hc,yprinted_eq what 0 200 h2 k (by omega)]
   simp only[Option.bind_some]
   have e0:decide ((0:Int)≤(what.size:Int))=true:=decide_eq_true (by omega)
   rw[e0,Bool.true_and]
   cases hh:(decide ((what.size:Int)≤200) && prt what) <;> simp
  ·rw[if_neg (by omega),if_neg hc]
   by_cases hc2:cover.length=16
   ·rw[if_pos (by omega)]
    by_cases hw:what.toList=[]
    ·rw[if_pos hw]
     simp only[hc2,hw,decide_true,Bool.true_and,Option.some.injEq]
     rw[Bool.eq_iff_iff];simp
    ·rw[if_neg hw];simp[hw]
   ·rw[if_neg (by omega)];simp[hc2]
def inP (a:List Int):Prop:=a.length=4∧∀ j,j < 4→0≤a.getD j 0∧a.getD j 0 < 2147483579
theorem inP_start:inP [11,22,33,44]:=⟨rfl,by decide⟩
theorem inP_mix {a:List Int} (h:inP a) (x:Int) (hx : 0≤x):inP (dgMix a x):=⟨by rw[dgMix,mix_len,h.1],mix_bd a x hx h.1 h.2 4 (by omega)⟩
theorem dgAll_cons (a:List Int) (x:Int) (l:List Int):dgAll a (x :: l)=dgAll (dgMix a x) l:=rfl
theorem mt_at (i:Nat) (h:i < 4):rd [1103515245,69069,1664525,22695477] (i:Int)=mulT.getD i 0:=by
 match i,h with
 | 0,_=>rfl
 | 1,_=>rfl
 | 2,_=>rfl
 | 3,_=>rfl
theorem rd_getD (l:List Int) (i:Nat):rd l (i:Int)=l.getD i 0:=by simp[rd]
theorem specMix_step (l:List Int) (h:inP l) (x:Int) (hx : 0≤x∧x≤255) (i:Nat) (hi:i < 4) (k:Nat) :
  zqz.l0 (k + 1) (mixN l x i) x [1103515245,69069,1664525,22695477] i=zqz.l0 k (mixN l x (i + 1)) x [1103515245,69069,1664525,22695477] ((i + 1:Nat):Int):=by
 have hlen:(mixN l x i).length=4:=by rw[mix_len,h.1]
 have b1:=mix_bd l x hx.1 h.1 h.2 i (by omega) i hi
 have b2:=mix_bd l x hx.1 h.1 h.2 i (by omega) ((i + 1) % 4) (by omega)
 have b3:=mulOk i hi
 simp only[zqz.l0]
 rw[w64 (n:=(i:Int) + 1) (by omega) (by omega)]
 have e6:Int.tmod ((i:Int) + 1) 4=((i + 1) % 4:Nat):=by rw[Int.tmod_eq_emod_of_nonneg (by omega)];omega
 rw[e6,mt_at i hi,rd_getD,rd_getD]
 obtain⟨p1,e1⟩ : ∃ p,p=(mixN l x i).getD i 0:=⟨_,rfl⟩
 obtain⟨p2,e2⟩ : ∃ p,p=(mixN l x i).getD ((i + 1) % 4) 0:=⟨_,rfl⟩
 obtain⟨p3,e3⟩ : ∃ p,p=mulT.getD i 0:=⟨_,rfl⟩
 have e5:mixN l x (i + 1)=(mixN l x i).set i ((p1 * p3 + x + 1 + p2) % 2147483579):=by rw[e1,e2,e3];rfl
 rw[e5,← e1,← e2,← e3]
 rw[← e1] at b1;rw[← e2] at b2;rw[← e3] at b3
 have b4:=prod_bd b1.1 b1.2 b3.1 b3.2
 rw[if_pos (by omega),if_pos (by omega),if_pos (by omega),if_pos (by simp;omega),if_pos (by omega),if_pos (by omega),w64 (n:=p1 * p3) (by omega) (by omega),w64 (n:=p1 * p3 + x) (by omega) (by omega),w64 (n:=p1 * p3 + x + 1) (by omega) (by omega),w64 (by omega) (by omega),Int.tmod_eq_emod_of_nonneg (by omega),Int.toNat_natCast]
 rfl
theorem specMix_eq (l:List Int) (h:inP l) (x:Int) (hx : 0≤x∧x≤255) (k:Nat) (hk : 5≤k):zqz.f k l x=some (dgMix l x):=by
 obtain⟨k,rfl⟩ : ∃ m,k=m + 5:=⟨k - 5,by omega⟩
 unfold zqz.f
 have e0:=specMix_step l h x hx 0 (by omega) (k + 4)
 have e1:=specMix_step l h x hx 1 (by omega) (k + 3)
 have e2:=specMix_step l h x hx 2 (by omega) (k + 2)
 have e3:=specMix_step l h x hx 3 (by omega) (k + 1)
 have e4:zqz.l0 (k + 1) (mixN l x 4) x [1103515245,69069,1664525,22695477] ((3 + 1:Nat):Int)=some (mixN l x 4):=by
  simp only[zqz.l0];rw[if_neg (by omega)]
 exact e0.trans (e1.trans (e2.trans (e3.trans e4)))
theorem tm256 (n:Int) (h : 0≤n):Int.tmod n 256 % 256=n % 256:=by rw[Int.tmod_eq_emod_of_nonneg h];omega
theorem td256 (n:Int) (h : 0≤n) (h2:n≤9223372036854775807):wrap64 (Int.tdiv n 256)=n / 256:=by
 rw[Int.tdiv_eq_ediv_of_nonneg h,w64 (by omega) (by omega)]
theorem specBytes_eq (n:Int) (h : 0≤n) (h2:n≤9223372036854775807) (k:Nat) (hk : 5≤k):qxv.f k n=some (yb n):=by
 obtain⟨k,rfl⟩ : ∃ m,k=m + 5:=⟨k - 5,by omega⟩
 unfold qxv.f
 rw[if_pos (by omega)]
 simp only[Option.bind_some,List.length_replicate]
 simp only[qxv.l0]
 have a1:=td256 n h h2
 have a2:=td256 (n / 256) (by omega) (by omega)
 have a3:=td256 (n / 256 / 256) (by omega) (by omega)
 have w1:wrap64 ((0:Int) + 1)=1:=by unfold wrap64;omega
 have w2:wrap64 ((1:Int) + 1)=2:=by unfold wrap64;omega
 have w3:wrap64 ((2:Int) + 1)=3:=by unfold wrap64;omega
 have w4:wrap64 ((3:Int) + 1)=4:=by unfold wrap64;omega
 rw[w1,w2,w3,w4,a1,a2,a3,tm256 n h,tm256 _ (by omega),tm256 _ (by omega),tm256 _ (by omega)]
 simp[yb,List.replicate]
 omega
theorem specDig_l3 (a:List Int) (h:inP a):∀ (k:Nat),10≤k→qxw.l3 k [] a (a.length:Int) 0=some (a.flatMap yb):=by
 intro k hk
 obtain⟨k,rfl⟩ : ∃ m,k=m + 10:=⟨k - 10,by omega⟩
 obtain⟨hl,hb⟩:=h
 match a,hl with
 | [b0,b1,b2,b3],_ =>
  have h0:=hb 0 (by omega)
  have h1:=hb 1 (by omega)
  have h2:=hb 2 (by omega)
  have h3:=hb 3 (by omega)
  simp only[List.getD_cons_zero,List.getD_cons_succ] at h0 h1 h2 h3
  have w1:wrap64 ((0:Int) + 1)=1:=by unfold wrap64;omega
  have w2:wrap64 ((1:Int) + 1)=2:=by unfold wrap64;omega
  have w3:wrap64 ((2:Int) + 1)=3:=by unfold wrap64;omega
  have w4:wrap64 ((3:Int) + 1)=4:=by unfold wrap64;omega
  have r0:rd [b0,b1,b2,b3] 0=b0:=rfl
  have r1:rd [b0,b1,b2,b3] 1=b1:=rfl
  have r2:rd [b0,b1,b2,b3] 2=b2:=rfl
  have r3:rd [b0,b1,b2,b3] 3=b3:=rfl
  simp only[qxw.l3,w1,w2,w3,w4,r0,r1,r2,r3]
  rw[specBytes_eq b0 (by omega) (by omega) _ (by omega),specBytes_eq b1 (by omega) (by omega) _ (by omega),specBytes_eq b2 (by omega) (by omega) _ (by omega),specBytes_eq b3 (by omega) (by omega) _ (by omega)]
  simp[yb]
theorem specDig_l2 (d:Nat):∀ (a:List Int) (k i:Nat),inP a→i + d=8→d + 12≤k→qxw.l2 k a i=some ((dgAll a (List.replicate d 0)).flatMap yb):=by
 induction d with
 | zero =>
  intro a k i h hi hk
  obtain⟨k,rfl⟩ : ∃ m,k=m + 1:=⟨k - 1,by omega⟩
  simp only[qxw.l2]
  rw[if_neg (by omega),specDig_l3 a h k (by omega)];rfl
 | succ d ih =>
  intro a k i h hi hk
  obtain⟨k,rfl⟩ : ∃ m,k=m + 1:=⟨k - 1,by omega⟩
  simp only[qxw.l2]
  rw[if_pos (by omega),specMix_eq a h 0 (by omega) k (by omega)]
  simp only[Option.bind_some]
  rw[w64 (by omega) (by omega),show((i:Int) + 1)=((i + 1:Nat):Int) from rfl,ih (dgMix a 0) k (i + 1) (inP_mix h 0 (by omega)) (by omega) (by omega)]
  rfl
theorem wbyte {x:Int} (h : 0≤x∧x≤255):wrap64 x=x:=w64 (by omega) (by omega)
theorem drop_rd {l:List Int} {i:Nat} (h:i < l.length):l.drop i=rd l i :: l.drop (i + 1):=by rw[List.drop_eq_getElem_cons h,rd_nat h]
theorem specDig_l1 (xs:List Int) (hx:isBytes xs) (hl:xs.length≤1000000000) (d:Nat):∀ (a:List Int) (k i:Nat),inP a→i + d=xs.length→d + 24≤k →
  qxw.l1 k a xs (xs.length:Int) i=some ((dgAll (dgAll a (xs.drop i)) (List.replicate 8 0)).flatMap yb):=by
 induction d with
 | zero =>
  intro a k i h hi hk
  obtain⟨k,rfl⟩ : ∃ m,k=m + 1:=⟨k - 1,by omega⟩
  simp only[qxw.l1]
  rw[if_neg (by omega),List.drop_of_length_le (by omega)]
  exact specDig_l2 8 a k 0 h (by omega) (by omega)
 | succ d ih =>
  intro a k i h hi hk
  obtain⟨k,rfl⟩ : ∃ m,k=m + 1:=⟨k - 1,by omega⟩
  have hlt:i < xs.length:=by omega
  have hb:=hx (rd xs i) (rd_mem hlt)
  simp only[qxw.l1]
  rw[if_pos (by omega),if_pos (by omega),if_pos (by omega),wbyte hb,specMix_eq a h _ hb k (by omega)]
  simp only[Option.bind_some]
  rw[w64 (by omega) (by omega),show((i:Int) + 1)=((i + 1:Nat):Int) from rfl,ih _ k (i + 1) (inP_mix h _ hb.1) (by omega) (by omega),drop_rd hlt,dgAll_cons]
theorem specDig_l0 (xs ys:List Int) (hx:isBytes xs) (hl:xs.length≤1000000000) (hly:ys.length≤1000000000) (d:Nat):∀ (a:List Int) (k i:Nat),inP a→i + d=xs.length→d + 40≤k →
  qxw.l0 k ys a xs (xs.length:Int) i=some ((dgAll (dgAll (dgAll a (xs.drop i)) (yb ys.length)) (List.replicate 8 0)).flatMap yb):=by
 induction d with
 | zero =>
  intro a k i h hi hk
  obtain⟨k,rfl⟩ : ∃ m,k=m + 1:=⟨k - 1,by omega⟩
  simp only[qxw.l0]
  rw[if_neg (by omega),List.drop_of_length_le (by omega),specBytes_eq _ (by omega) (by omega) k (by omega)]
  exact specDig_l1 (yb ys.length) (yb_bytes _) (by rw[yb_len];omega) 4 a k 0 h (by rw[yb_len]) (by omega)
 | succ d ih =>
  intro a k i h hi hk
  obtain⟨k,rfl⟩ : ∃ m,k=m + 1:=⟨k - 1,by omega⟩
  have hlt:i < xs.length:=by omega
  have hb:=hx (rd xs i) (rd_mem hlt)
  simp only[qxw.l0]
  rw[if_pos (by omega),if_pos (by omega),if_pos (by omega),wbyte hb,specMix_eq a h _ hb k (by omega)]
  simp only[Option.bind_some]
  rw[w64 (by omega) (by omega),show((i:Int) + 1)=((i + 1:Nat):Int) from rfl,ih _ k (i + 1) (inP_mix h _ hb.1) (by omega) (by omega),drop_rd hlt,dgAll_cons]
theorem specDigest_eq (l:List Int) (h:isBytes l) (hl:l.length≤1000000000) (k:Nat) (hk:l.length + 40≤k):qxw.f k l=some (dg l):=by
 have:=specDig_l0 l l h hl hl l.length [11,22,33,44] k 0 inP_start (by omega) hk
 simpa [qxw.f,dg,dgS] using this
theorem specDigest_ev (l:List Int) (h:isBytes l) (hl:l.length≤1000000000):Ev (fun k=>qxw.f k l) (dg l):=⟨_,fun k hk=>specDigest_eq l h hl k hk⟩
theorem isBytes_flatMap_yb (a:List Int):isBytes (a.flatMap yb):=by
 intro x hx
 obtain⟨n,_,hn⟩:=List.mem_flatMap.1 hx
 exact yb_bytes n x hn
theorem dg_bytes (l:List Int):isBytes (dg l):=isBytes_flatMap_yb _
theorem dgAll_len:∀ (l a:List Int),(dgAll a l).length=a.length
 | [],_=>rfl
 | x :: l,a=>by rw[dgAll_cons,dgAll_len l,dgMix,mix_len]
theorem dg_len (l:List Int):(dg l).length=16:=by
 have h:(dgS l).length=4:=by simp[dgS,dgAll_len]
 unfold dg
 match dgS l,h with
 | [b0,b1,b2,b3],_=>rfl
theorem isBytes_append {a b:List Int} (h:isBytes a) (h2:isBytes b):isBytes (a ++ b):=fun x hx=>(List.mem_append.1 hx).elim (h x) (h2 x)
theorem implDigest_eq (l:List Int) (h:isBytes l) (hl:l.length≤20000):xk.f l=some (dg l):=by
 unfold xk.f;rw[if_pos h,if_neg (by omega)]
theorem bytesOf_isBytes (s:ByteArray):isBytes (bytesOf s):=by
 intro x hx
 simp only[bytesOf,List.mem_map] at hx
 obtain⟨b,_,rfl⟩:=hx
 have:=b.toNat_lt
 omega
def macL (key data:List Int):List Int:=dg (dg key ++ dg data)
theorem specTwo_ev (a b:List Int) (ha:isBytes a) (hb:isBytes b) (la:a.length≤100000000) (lb:b.length≤100000000):Ev (fun k=>zzq.f k a b) (dg (a ++ b)):=by
 simp only[zzq.f,List.length_nil,Nat.zero_add,List.nil_append,if_pos (show a.length < 140737488355328 by omega),Option.bind_some,if_pos (show a.length + b.length < 140737488355328 by omega)]
 exact Ev.bind (specDigest_ev _ (isBytes_append ha hb) (by simp;omega)) (Ev.now _)
theorem specMac_ev (a b:List Int) (ha:isBytes a) (hb:isBytes b) (la:a.length≤100000000) (lb:b.length≤100000000):Ev (fun k=>zqq.f k a b) (macL a b):=by
 simp only[zqq.f]
 refine Ev.bind (specDigest_ev a ha (by omega)) ?_
 refine Ev.bind (specDigest_ev b hb (by omega)) ?_
 exact Ev.bind (specTwo_ev _ _ (dg_bytes a) (dg_bytes b) (by rw[dg_len];omega) (by rw[dg_len];omega)) (Ev.now _)
theorem implMac_ev (a b:List Int) (ha:isBytes a) (hb:isBytes b) (la:a.length≤20000) (lb:b.length≤20000):Ev (fun k=>xx.f k a b) (macL a b):=by
 refine⟨1,fun k hk=>?_⟩
 obtain⟨k,rfl⟩ : ∃ m,k=m + 1:=⟨k - 1,by omega⟩
 show xx.f (k + 1) a b=_
 unfold xx.f
 rw[if_neg (by omega),decide_eq_false (by omega)]
 simp only[xx.j0,Bool.false_eq_true,if_false]
 rw[implDigest_eq a ha la]
 simp only[Option.bind_some]
 rw[implDigest_eq b hb lb]
 simp only[Option.bind_some]
 rw[if_pos (by rw[dg_len,dg_len];omega),implDigest_eq _ (isBytes_append (dg_bytes a) (dg_bytes b)) (by rw[List.length_append,dg_len,dg_len];omega)]
 rfl
theorem bytesOfS_eq (s:ByteArray) (h:s.size≤9223372036854775807):bytesOfS.f s=some (bytesOf s):=by unfold bytesOfS.f;rw[if_pos h]
def coverL (what:ByteArray) (salt cover:List Int):List Int:=if cover.length=0 then macL salt (bytesOf what) else cover
theorem good_open {t:Int} {who what:ByteArray} {salt cover:List Int} (h:goodEntry t who what salt cover=true) (hc:cover.length=0):what.size≤200∧salt.length≤20:=by
 unfold goodEntry at h
 split at h;· cases h
 split at h;· cases h
 split at h;· cases h
 split at h;· cases h
 simp only[Bool.and_eq_true,decide_eq_true_eq] at h
 omega
theorem good_who {t:Int} {who what:ByteArray} {salt cover:List Int} (h:goodEntry t who what salt cover=true) : 0≤t∧t≤100000000000∧who.size≤60:=by
 unfold goodEntry at h
 split at h;· cases h
 split at h;· cases h
 split at h;· cases h
 omega
theorem good_closed {t:Int} {who what:ByteArray} {salt cover:List Int} (h:goodEntry t who what salt cover=true) (hc:cover.length≠0):cover.length=16:=by
 unfold goodEntry at h
 split at h;· cases h
 split at h;· cases h
 split at h;· cases h
 split at h;· cases h
 simp only[Bool.and_eq_true,decide_eq_true_eq] at h
 exact h.1.1
theorem coverL_len {t:Int} {who what:ByteArray} {salt cover:List Int} (h:goodEntry t who what salt cover=true):(coverL what salt cover).length=16:=by
 unfold coverL
 split
 ·rw[macL,dg_len]
 ·exact good_closed h (by assumption)
theorem coverL_bytes (what:ByteArray) (salt:List Int) {cover:List Int} (h:isBytes cover):isBytes (coverL what salt cover):=by
 unfold coverL
 split
 ·exact dg_bytes _
 ·exact h
theorem specCover_ev (t:Int) (who what:ByteArray) (salt cover:List Int) (hg:goodEntry t who what salt cover=true) (hs:isBytes salt):Ev (fun k=>qwk.f k t who what salt cover) (coverL what salt cover):=by
 unfold coverL
 by_cases hc:cover.length=0
 ·obtain⟨h1,h2⟩:=good_open hg hc
  simp only[qwk.f,qxz.f,hc,Option.bind_some,bytesOfS_eq what (by omega),if_true,beq_self_eq_true,Int.natCast_zero]
  exact Ev.bind (specMac_ev salt (bytesOf what) hs (bytesOf_isBytes what) (by omega) (by rw[bytesOf_length];omega)) (Ev.now _)
 ·have h16:=good_closed hg hc
  simp only[qwk.f,qxz.f,Option.bind_some,beq_iff_eq,List.length_nil,Nat.zero_add,List.nil_append,if_neg (show ¬ ((cover.length:Int)=0) by omega),if_pos (show cover.length < 140737488355328 by omega),if_neg hc]
  exact Ev.now _
theorem implCoverOf_ev (t:Int) (who what:ByteArray) (salt cover:List Int) (h1:okS who) (h2:okS what) (hs:isBytes salt) :
  Ev (fun k=>xj.f k t who what salt cover) (if goodEntry t who what salt cover=true then coverL what salt cover else[]):=by
 simp only[xj.f]
 refine Ev.bind ⟨_,fun k hk=>implGood_eq t who what salt cover h1 h2 k hk⟩ ?_
 by_cases hg:goodEntry t who what salt cover=true
 ·simp only[if_pos hg]
  unfold coverL
  by_cases hc:cover.length=0
  ·obtain⟨h3,h4⟩:=good_open hg hc
   simp only[if_pos hc,if_neg (show ¬ ((cover.length:Int) > 0) by omega),bytesOfS_eq what (by omega),Option.bind_some]
   exact Ev.bind (implMac_ev salt (bytesOf what) hs (bytesOf_isBytes what) (by omega) (by rw[bytesOf_length];omega)) (Ev.now _)
  ·have h16:=good_closed hg hc
   simp only[if_neg hc,if_pos (show(cover.length:Int) > 0 by omega),wv.f,if_pos (show cover.length≤140737488355328 by omega),Option.bind_some]
   exact Ev.now _
 ·simp only[if_neg hg]
  exact Ev.now _
def leafL (t:Int) (who what:ByteArray) (salt cover:List Int):List Int:=dg ([0] ++ yb t ++ yb (t / 4294967296) ++ dg (bytesOf who) ++ coverL what salt cover)
theorem leafL_len (t:Int) (who what:ByteArray) (salt cover:List Int):(leafL t who what salt cover).length=16:=dg_len _
theorem leafL_bytes (t:Int) (who what:ByteArray) (salt cover:List Int):isBytes (leafL t who what salt cover):=dg_bytes _
theorem yb_low (t:Int) (h0 : 0≤t):yb (Int.tmod t 4294967296)=yb t:=by
 rw[Int.tmod_eq_emod_of_nonneg h0]
 simp only[yb,List.cons.injEq,and_true]
 omega
theorem high_eq (t:Int) (h0 : 0≤t) (h1:t≤100000000000):wrap64 (Int.tdiv t 4294967296)=t / 4294967296:=by
 rw[Int.tdiv_eq_ediv_of_nonneg h0]
 exact w64 (by omega) (by omega)
theorem zero_bytes:isBytes [0]:=by
 intro x hx
 simp at hx
 omega
theorem leaf_parts (t:Int) (who what:ByteArray) {salt cover:List Int} (hc:isBytes cover):isBytes ([0] ++ yb t ++ yb (t / 4294967296) ++ dg (bytesOf who) ++ coverL what salt cover) :=
 isBytes_append (isBytes_append (isBytes_append (isBytes_append zero_bytes (yb_bytes _)) (yb_bytes _)) (dg_bytes _)) (coverL_bytes what salt hc)
theorem specLeaf_ev (t:Int) (who what:ByteArray) (salt cover:List Int) (hg:goodEntry t who what salt cover=true) (hs:isBytes salt) (hc:isBytes cover):Ev (fun k=>qww.f k t who what salt cover) (leafL t who what salt cover):=by
 obtain⟨g0,g1,g2⟩:=good_who hg
 have hl:=coverL_len hg
 have hd:=dg_len (bytesOf who)
 have hy:=fun n=>yb_len n
 simp only[qww.f,Option.bind_some,high_eq t g0 g1]
 have b1:Ev (fun k=>qxv.f k (Int.tmod t 4294967296)) (yb t):=⟨5,fun k hk=>by show qxv.f k (Int.tmod t 4294967296)=_;rw[specBytes_eq _ (by rw[Int.tmod_eq_emod_of_nonneg g0];omega) (by rw[Int.tmod_eq_emod_of_nonneg g0];omega) k hk,yb_low t g0]⟩
 refine Ev.bind b1 ?_
 simp only[if_pos (show([0]:List Int).length + (yb t).length < 140737488355328 by rw[hy];simp)]
 refine Ev.bind ⟨5,fun k hk=>specBytes_eq (t / 4294967296) (by omega) (by omega) k hk⟩ ?_
 simp only[if_pos (show(([0]:List Int) ++ yb t).length + (yb (t / 4294967296)).length < 140737488355328 by rw[List.length_append,hy,hy];simp),bytesOfS_eq who (by omega),Option.bind_some]
 refine Ev.bind (specDigest_ev (bytesOf who) (bytesOf_isBytes who) (by rw[bytesOf_length];omega)) ?_
 simp only[if_pos (show(([0]:List Int) ++ yb t ++ yb (t / 4294967296)).length + (dg (bytesOf who)).length < 140737488355328 by simp only[List.length_append,hy,hd];simp)]
 refine Ev.bind (specCover_ev t who what salt cover hg hs) ?_
 simp only[if_pos (show(([0]:List Int) ++ yb t ++ yb (t / 4294967296) ++ dg (bytesOf who)).length + (coverL what salt cover).length < 140737488355328 by simp only[List.length_append,hy,hd,hl];simp)]
 exact Ev.bind (specDigest_ev _ (leaf_parts t who what hc) (by simp only[List.length_append,hy,hd,hl];simp)) (Ev.now _)
theorem concat_eq (ls:List (List Int)) (h:ls.flatten.length≤140737488355328):qjv.f ls=some ls.flatten:=by
 unfold qjv.f
 rw[if_pos h]
theorem implLeafOf_ev (t:Int) (who what:ByteArray) (salt cover:List Int) (h1:okS who) (h2:okS what) (hs:isBytes salt) (hc:isBytes cover) :
  Ev (fun k=>xw.f k t who what salt cover) (if goodEntry t who what salt cover=true then leafL t who what salt cover else[]):=by
 simp only[xw.f]
 refine Ev.bind ⟨_,fun k hk=>implGood_eq t who what salt cover h1 h2 k hk⟩ ?_
 by_cases hg:goodEntry t who what salt cover=true
 ·obtain⟨g0,g1,g2⟩:=good_who hg
  have hl:=coverL_len hg
  have hd:=dg_len (bytesOf who)
  have hy:=fun n=>yb_len n
  have y1:∀ n,qqw.f n=some (yb n):=fun n=>rfl
  have hco:=implCoverOf_ev t who what salt cover h1 h2 hs
  rw[if_pos hg] at hco
  have hfl:([[0],yb t,yb (t / 4294967296),dg (bytesOf who),coverL what salt cover]:List (List Int)).flatten=[0] ++ yb t ++ yb (t / 4294967296) ++ dg (bytesOf who) ++ coverL what salt cover:=by simp
  have hcat:=concat_eq [[0],yb t,yb (t / 4294967296),dg (bytesOf who),coverL what salt cover] (by rw[hfl];simp only[List.length_append,hy,hd,hl];simp)
  rw[hfl] at hcat
  simp only[if_pos hg,y1,Option.bind_some,bytesOfS_eq who (by omega),implDigest_eq (bytesOf who) (bytesOf_isBytes who) (by rw[bytesOf_length];omega)]
  refine Ev.bind hco ?_
  simp only[hcat,Option.bind_some,implDigest_eq _ (leaf_parts t who what (salt:=salt) hc) (by simp only[List.length_append,hy,hd,hl];simp)]
  exact Ev.now _
 ·simp only[if_neg hg]
  exact Ev.now _
open Go.RowKit Go.Proofs.Ytipdkendfcopiaa.Read Go.Proofs.YtipdkendfcopiaaW.PrintWords Go.Proofs.YtipdkendfcopiaaW.PrintLast Go.Proofs.YtipdkendfcopiaaW.PrintMore
def cutL (n:Int):Int:=(qzq.f 300 n).getD 1
theorem cut_fin:∀ n:Fin 201,2≤n.val→qwv.f 300 (n.val:Int)=some (cutL n.val)∧qzq.f 300 (n.val:Int)=some (cutL n.val)∧1≤cutL n.val∧cutL n.val < n.val:=by decide +kernel
theorem cut_facts (n:Int) (h0 : 2≤n) (h1:n≤200):qwv.f 300 n=some (cutL n)∧qzq.f 300 n=some (cutL n)∧1≤cutL n∧cutL n < n:=by
 obtain⟨m,rfl⟩ : ∃ m:Nat,n=m:=⟨n.toNat,by omega⟩
 exact cut_fin ⟨m,by omega⟩ (by show 2≤m;omega)
def nodeL (a b:List Int):List Int:=dg ([1] ++ a ++ b)
def six (b:List Int):Prop:=isBytes b∧b.length≤16
theorem one_bytes:isBytes [1]:=by
 intro x hx
 simp at hx
 omega
theorem node_six (a b:List Int):six (nodeL a b):=⟨dg_bytes _,by unfold nodeL;rw[dg_len];omega⟩
theorem node_len (a b:List Int):(nodeL a b).length=16:=dg_len _
theorem specNode_eq (a b:List Int) (ha:six a) (hb:six b):qxq.f 1000 a b=some (nodeL a b):=by
 have h1:=ha.2
 have h2:=hb.2
 unfold qxq.f
 simp only[Option.bind_some,if_pos (show([1]:List Int).length + a.length < 140737488355328 by simp;omega),if_pos (show(([1]:List Int) ++ a).length + b.length < 140737488355328 by simp;omega)]
 rw[specDigest_eq _ (isBytes_append (isBytes_append one_bytes ha.1) hb.1) (by simp;omega) 1000 (by simp;omega)]
 rfl
theorem implNode_eq (a b:List Int) (ha:six a) (hb:six b):qqv.f a b=some (nodeL a b):=by
 have h1:=ha.2
 have h2:=hb.2
 have hf:([[1],a,b]:List (List Int)).flatten=[1] ++ a ++ b:=by simp
 have e:qjv.f [[1],a,b]=some ([1] ++ a ++ b):=by
  unfold qjv.f
  rw[hf,if_pos (by simp;omega)]
 unfold qqv.f
 rw[e,Option.bind_some,implDigest_eq _ (isBytes_append (isBytes_append one_bytes ha.1) hb.1) (by simp;omega)]
 rfl
attribute [irreducible] nodeL
theorem Ev.upR {α:Type} {g:Nat→Option α} {r : α} (h:Ev (fun k=>g (k + 1)) r):Ev g r:=by
 obtain⟨n,h⟩:=h
 refine⟨n + 1,fun k hk=>?_⟩
 obtain⟨k,rfl⟩ : ∃ m,k=m + 1:=⟨k - 1,by omega⟩
 exact h k (by omega)
def okR (e:S27):Prop:=okS e.f1∧okS e.f2∧isBytes e.f3∧isBytes e.f4
def goodS (e:S27):Bool:=goodEntry e.f0 e.f1 e.f2 e.f3 e.f4
def leafS (e:S27):List Int:=leafL e.f0 e.f1 e.f2 e.f3 e.f4
def goodLog (l:List S27):Prop:=l.length≤200∧∀ e ∈ l,goodS e=true
instance (l:List S27):Decidable (goodLog l):=by unfold goodLog;infer_instance
def leavesL (l:List S27):List (List Int) × Bool:=if goodLog l then(l.map leafS,true) else([],false)
theorem leafS_len (e:S27):(leafS e).length=16:=leafL_len _ _ _ _ _
theorem leafS_bytes (e:S27):isBytes (leafS e):=leafL_bytes _ _ _ _ _
attribute [irreducible] leafS goodS
theorem implLeafS_ev (e:S27) (h:okR e):Ev (fun k=>xw.f k e.f0 e.f1 e.f2 e.f3 e.f4) (if goodS e=true then leafS e else[]):=by
 unfold goodS leafS
 exact implLeafOf_ev e.f0 e.f1 e.f2 e.f3 e.f4 h.1 h.2.1 h.2.2.1 h.2.2.2
theorem specGoodS_ev (e:S27) (h:okR e):Ev (fun k=>qkz.f k e.f0 e.f1 e.f2 e.f3 e.f4) (goodS e):=by
 unfold goodS
 exact⟨_,fun k hk=>specGood_eq e.f0 e.f1 e.f2 e.f3 e.f4 h.1 h.2.1 k hk⟩
theorem specLeafS_ev (e:S27) (h:okR e) (hg:goodS e=true):Ev (fun k=>qww.f k e.f0 e.f1 e.f2 e.f3 e.f4) (leafS e):=by
 unfold leafS
 unfold goodS at hg
 exact specLeaf_ev e.f0 e.f1 e.f2 e.f3 e.f4 hg h.2.2.1 h.2.2.2
theorem rdT_nat {l:List S27} {i:Nat} (h:i < l.length):wk l (i:Int)=l[i]:=by simp[wk,List.getD_eq_getElem?_getD,List.getElem?_eq_getElem h]
theorem map_take_succ {l:List S27} {i:Nat} (h:i < l.length):(l.take i).map leafS ++ [leafS l[i]]=(l.take (i + 1)).map leafS:=by
 rw[List.take_succ_eq_append_getElem h,List.map_append,List.map_singleton]
theorem leaves_bad {l:List S27} {i:Nat} (h:i < l.length) (hg:¬ goodS l[i]=true):leavesL l=([],false):=if_neg (fun g=>hg (g.2 _ (List.getElem_mem h)))
theorem leaves_all {l:List S27} (hl:l.length≤200) (h:∀ e ∈ l,goodS e=true):leavesL l=(l.map leafS,true):=if_pos ⟨hl,h⟩
theorem taken_good {l:List S27} {i:Nat} (h:i < l.length) (hg:∀ e ∈ l.take i,goodS e=true) (hi:goodS l[i]=true):∀ e ∈ l.take (i + 1),goodS e=true:=by
 intro e he
 rw[List.take_succ_eq_append_getElem h] at he
 rcases List.mem_append.1 he with he|he
 ·exact hg e he
 ·obtain rfl:=List.mem_singleton.1 he
  exact hi
theorem implLeaves_l0 (l:List S27) (hl:l.length≤200) (hok:∀ e ∈ l,okR e) (d:Nat):∀ i,i + d=l.length→(∀ e ∈ l.take i,goodS e=true)→Ev (fun k=>qzj.l0 k ((l.take i).map leafS) l (l.length:Int) (i:Int)) (leavesL l):=by
 induction d with
 | zero =>
  intro i hi hg
  obtain rfl:i=l.length:=by omega
  rw[List.take_length] at hg ⊢
  refine Ev.upR ?_
  simp only[qzj.l0,if_neg (show ¬ ((l.length:Int) < (l.length:Int)) by omega)]
  rw[leaves_all hl hg]
  exact Ev.now _
 | succ d ih =>
  intro i hi hg
  have hlt:i < l.length:=by omega
  refine Ev.upR ?_
  have ew:wrap64 ((i:Int) + 1)=((i + 1:Nat):Int):=by rw[w64 (by omega) (by omega)];rfl
  have hlen:((l.take i).map leafS).length < 5864062014805:=by rw[List.length_map,jq4];omega
  simp only[qzj.l0,if_pos (show(i:Int) < (l.length:Int) by omega),if_pos (Int.natCast_nonneg i),ew,rdT_nat hlt]
  refine Ev.bind (implLeafS_ev l[i] (hok _ (List.getElem_mem hlt))) ?_
  by_cases hgi:goodS l[i]=true
  ·simp only[if_pos hgi,nilS.f,Option.bind_some]
   rw[decide_eq_false (by rw[leafS_len];omega)]
   simp only[Bool.false_eq_true,if_false,if_pos hlen]
   rw[map_take_succ hlt]
   exact ih (i + 1) (by omega) (taken_good hlt hg hgi)
  ·simp only[if_neg hgi,nilS.f,Option.bind_some,List.length_nil,decide_true,if_true]
   rw[leaves_bad hlt hgi]
   exact Ev.now _
theorem implLeaves_ev (l:List S27) (hok:∀ e ∈ l,okR e):Ev (fun k=>qzj.f k l) (leavesL l):=by
 simp only[qzj.f]
 by_cases h:(l.length:Int) > 200
 ·simp only[if_pos h]
  rw[show leavesL l=([],false) from if_neg (fun g=>by have:=g.1;omega)]
  exact Ev.now _
 ·simp only[if_neg h]
  exact implLeaves_l0 l (by omega) hok l.length 0 (by omega) (fun e he=>by simp at he)
theorem specLeaves_l0 (l:List S27) (hl:l.length≤200) (hok:∀ e ∈ l,okR e) (d:Nat):∀ i,i + d=l.length→(∀ e ∈ l.take i,goodS e=true)→Ev (fun k=>qwx.l0 k ((l.take i).map leafS) l (l.length:Int) (i:Int)) (leavesL l):=by
 induction d with
 | zero =>
  intro i hi hg
  obtain rfl:i=l.length:=by omega
  rw[List.take_length] at hg ⊢
  refine Ev.upR ?_
  simp only[qwx.l0,if_neg (show ¬ ((l.length:Int) < (l.length:Int)) by omega)]
  rw[leaves_all hl hg]
  exact Ev.now _
 | succ d ih =>
  intro i hi hg
  have hlt:i < l.length:=by omega
  refine Ev.upR ?_
  have ew:wrap64 ((i:Int) + 1)=((i + 1:Nat):Int):=by rw[w64 (by omega) (by omega)];rfl
  have hlen:((l.take i).map leafS).length < 5864062014805:=by rw[List.length_map,jq4];omega
  simp only[qwx.l0,if_pos (show(i:Int) < (l.length:Int) by omega),if_pos (Int.natCast_nonneg i),ew,rdT_nat hlt]
  refine Ev.bind (specGoodS_ev l[i] (hok _ (List.getElem_mem hlt))) ?_
  by_cases hgi:goodS l[i]=true
  ·simp only[hgi,if_true]
   refine Ev.bind (specLeafS_ev l[i] (hok _ (List.getElem_mem hlt)) hgi) ?_
   simp only[if_pos hlen]
   rw[map_take_succ hlt]
   exact ih (i + 1) (by omega) (taken_good hlt hg hgi)
  ·simp only[if_neg hgi]
   rw[leaves_bad hlt hgi]
   exact Ev.now _
theorem specLeaves_ev (l:List S27) (hok:∀ e ∈ l,okR e):Ev (fun k=>qwx.f k l) (leavesL l):=by
 simp only[qwx.f]
 by_cases h:(l.length:Int) > 200
 ·simp only[if_pos h]
  rw[show leavesL l=([],false) from if_neg (fun g=>by have:=g.1;omega)]
  exact Ev.now _
 ·simp only[if_neg h]
  exact specLeaves_l0 l (by omega) hok l.length 0 (by omega) (fun e he=>by simp at he)
def cutN (n:Nat):Nat:=(cutL (n:Int)).toNat
theorem cutN_facts {n:Nat} (h0 : 2≤n) (h1:n≤200):(cutL (n:Int))=(cutN n:Int)∧1≤cutN n∧cutN n < n:=by
 obtain⟨_,_,h2,h3⟩:=cut_facts (n:Int) (by omega) (by omega)
 unfold cutN
 omega
def rootF:Nat→List (List Int)→List Int
 | 0,_=>[]
 | n + 1,l=>if l.length=0 then dg [] else if l.length=1 then rd_L2 l 0 else nodeL (rootF n (l.take (cutN l.length))) (rootF n (l.drop (cutN l.length)))
theorem rootF_fuel (n:Nat):∀ (m:Nat) (l:List (List Int)),l.length≤200→l.length < n→l.length < m→rootF n l=rootF m l:=by
 induction n with
 | zero=>intro m l _ h;omega
 | succ n ih =>
  intro m l h200 h1 h2
  obtain⟨m,rfl⟩ : ∃ k,m=k + 1:=⟨m - 1,by omega⟩
  simp only[rootF]
  by_cases c0:l.length=0
  ·rw[if_pos c0,if_pos c0]
  by_cases c1:l.length=1
  ·rw[if_neg c0,if_neg c0,if_pos c1,if_pos c1]
  rw[if_neg c0,if_neg c0,if_neg c1,if_neg c1]
  obtain⟨_,q1,q2⟩:=cutN_facts (n:=l.length) (by omega) h200
  rw[ih m (l.take (cutN l.length)) (by rw[jq4];omega) (by rw[jq4];omega) (by rw[jq4];omega),ih m (l.drop (cutN l.length)) (by rw[jq3];omega) (by rw[jq3];omega) (by rw[jq3];omega)]
def rootL (l:List (List Int)):List Int:=rootF 201 l
theorem rootL_nil {l:List (List Int)} (h:l.length=0):rootL l=dg []:=by
 show rootF (200 + 1) l=_
 rw[rootF,if_pos h]
theorem rootL_one {l:List (List Int)} (h:l.length=1):rootL l=rd_L2 l 0:=by
 show rootF (200 + 1) l=_
 rw[rootF,if_neg (by omega),if_pos h]
theorem rootL_node {l:List (List Int)} (h : 2≤l.length) (h2:l.length≤200):rootL l=nodeL (rootL (l.take (cutN l.length))) (rootL (l.drop (cutN l.length))):=by
 obtain⟨_,q1,q2⟩:=cutN_facts h h2
 show rootF (200 + 1) l=_
 rw[rootF,if_neg (by omega),if_neg (by omega)]
 unfold rootL
 rw[rootF_fuel 200 201 (l.take (cutN l.length)) (by rw[jq4];omega) (by rw[jq4];omega) (by rw[jq4];omega),rootF_fuel 200 201 (l.drop (cutN l.length)) (by rw[jq3];omega) (by rw[jq3];omega) (by rw[jq3];omega)]
def sixt (l:List (List Int)):Prop:=∀ b ∈ l,isBytes b∧b.length=16
theorem sixt_take {l:List (List Int)} (h:sixt l) (n:Nat):sixt (l.take n):=fun b hb=>h b (List.mem_of_mem_take hb)
theorem sixt_drop {l:List (List Int)} (h:sixt l) (n:Nat):sixt (l.drop n):=fun b hb=>h b (List.mem_of_mem_drop hb)
theorem sixt_rd {l:List (List Int)} (h:sixt l) {i:Nat} (hi:i < l.length):isBytes (rd_L2 l (i:Int))∧(rd_L2 l (i:Int)).length=16:=by
 have:rd_L2 l (i:Int)=l[i]:=by simp[rd_L2,List.getD_eq_getElem?_getD,List.getElem?_eq_getElem hi]
 rw[this]
 exact h _ (List.getElem_mem hi)
theorem rootL_six (n:Nat):∀ l:List (List Int),l.length≤n→l.length≤200→sixt l→isBytes (rootL l)∧(rootL l).length=16:=by
 induction n with
 | zero =>
  intro l hn _ _
  rw[rootL_nil (by omega)]
  exact⟨dg_bytes _,dg_len _⟩
 | succ n ih =>
  intro l hn h200 hs
  by_cases c0:l.length=0
  ·rw[rootL_nil c0]
   exact⟨dg_bytes _,dg_len _⟩
  by_cases c1:l.length=1
  ·rw[rootL_one c1]
   exact sixt_rd hs (i:=0) (by omega)
  ·rw[rootL_node (by omega) h200]
   exact⟨(node_six _ _).1,node_len _ _⟩
theorem root_ok {l:List (List Int)} (h200:l.length≤200) (hs:sixt l):isBytes (rootL l)∧(rootL l).length=16:=rootL_six l.length l (Nat.le_refl _) h200 hs
theorem root_six {l:List (List Int)} (h200:l.length≤200) (hs:sixt l):six (rootL l):=⟨(root_ok h200 hs).1,by rw[(root_ok h200 hs).2];omega⟩
theorem half_ev {n:Nat} (h0 : 2≤n) (h1:n≤200):Ev (fun k=>qzq.f k (n:Int)) (cutN n:Int):=by
 obtain⟨_,h2,_,_⟩:=cut_facts (n:Int) (by omega) (by omega)
 rw[(cutN_facts h0 h1).1] at h2
 exact Ev.of (fun k=>qzq.mono _ k) h2
theorem cut_ev {n:Nat} (h0 : 2≤n) (h1:n≤200):Ev (fun k=>qwv.f k (n:Int)) (cutN n:Int):=by
 obtain⟨h2,_,_,_⟩:=cut_facts (n:Int) (by omega) (by omega)
 rw[(cutN_facts h0 h1).1] at h2
 exact Ev.of (fun k=>qwv.mono _ k) h2
theorem node_ev {a b:List Int} (ha:six a) (hb:six b):Ev (fun k=>qxq.f k a b) (nodeL a b):=Ev.of (fun k=>qxq.mono _ _ k) (specNode_eq a b ha hb)
theorem empty_dg:xk.f []=some (dg []):=implDigest_eq [] (fun x hx=>absurd hx List.not_mem_nil) (by simp)
theorem implRoot_aux (n:Nat):∀ l:List (List Int),l.length≤n→l.length≤200→sixt l→Ev (fun k=>qzx.f k l) (rootL l):=by
 induction n with
 | zero =>
  intro l hn _ _
  refine Ev.upR ?_
  simp only[qzx.f,if_pos (show(l.length:Int)=0 by omega),empty_dg,Option.bind_some]
  rw[rootL_nil (by omega)]
  exact Ev.now _
 | succ n ih =>
  intro l hn h200 hs
  refine Ev.upR ?_
  by_cases c0:l.length=0
  ·simp only[qzx.f,if_pos (show(l.length:Int)=0 by omega),empty_dg,Option.bind_some]
   rw[rootL_nil c0]
   exact Ev.now _
  by_cases c1:l.length=1
  ·have h16:=(sixt_rd hs (i:=0) (by omega)).2
   simp only[qzx.f,if_neg (show ¬ (l.length:Int)=0 by omega),if_pos (show(l.length:Int)=1 by omega),if_pos (show(0:Int) < (l.length:Int) by omega),wv.f,if_pos (show(rd_L2 l 0).length≤140737488355328 by rw[show((0:Int))=((0:Nat):Int) from rfl,h16];omega),Option.bind_some]
   rw[rootL_one c1]
   exact Ev.now _
  ·obtain⟨_,q1,q2⟩:=cutN_facts (n:=l.length) (by omega) h200
   simp only[qzx.f,if_neg (show ¬ (l.length:Int)=0 by omega),if_neg (show ¬ (l.length:Int)=1 by omega)]
   refine Ev.bind (half_ev (n:=l.length) (by omega) h200) ?_
   simp only[if_pos (Int.natCast_nonneg (cutN l.length)),if_pos (show((cutN l.length:Nat):Int)≤(l.length:Int) by omega),Int.toNat_natCast]
   have e1:=ih (l.take (cutN l.length)) (by rw[jq4];omega) (by rw[jq4];omega) (sixt_take hs _)
   have e2:=ih (l.drop (cutN l.length)) (by rw[jq3];omega) (by rw[jq3];omega) (sixt_drop hs _)
   refine Ev.bind e1 ?_
   refine Ev.bind e2 ?_
   simp only[implNode_eq _ _ (root_six (l:=l.take (cutN l.length)) (by rw[jq4];omega) (sixt_take hs _)) (root_six (l:=l.drop (cutN l.length)) (by rw[jq3];omega) (sixt_drop hs _)),Option.bind_some]
   rw[rootL_node (by omega) h200]
   exact Ev.now _
theorem specRoot_aux (n:Nat):∀ l:List (List Int),l.length≤n→l.length≤200→sixt l→Ev (fun k=>qxj.f k l) (rootL l):=by
 induction n with
 | zero =>
  intro l hn _ _
  refine Ev.upR ?_
  simp only[qxj.f,if_pos (show(l.length:Int)=0 by omega)]
  rw[rootL_nil (by omega)]
  exact Ev.bind (specDigest_ev [] (fun x hx=>absurd hx List.not_mem_nil) (by simp)) (Ev.now _)
 | succ n ih =>
  intro l hn h200 hs
  refine Ev.upR ?_
  by_cases c0:l.length=0
  ·simp only[qxj.f,if_pos (show(l.length:Int)=0 by omega)]
   rw[rootL_nil c0]
   exact Ev.bind (specDigest_ev [] (fun x hx=>absurd hx List.not_mem_nil) (by simp)) (Ev.now _)
  by_cases c1:l.length=1
  ·simp only[qxj.f,if_neg (show ¬ (l.length:Int)=0 by omega),if_pos (show(l.length:Int)=1 by omega),if_pos (show(0:Int) < (l.length:Int) by omega)]
   rw[rootL_one c1]
   exact Ev.now _
  ·obtain⟨_,q1,q2⟩:=cutN_facts (n:=l.length) (by omega) h200
   simp only[qxj.f,if_neg (show ¬ (l.length:Int)=0 by omega),if_neg (show ¬ (l.length:Int)=1 by omega)]
   refine Ev.bind (cut_ev (n:=l.length) (by omega) h200) ?_
   simp only[if_pos (Int.natCast_nonneg (cutN l.length)),if_pos (show((cutN l.length:Nat):Int)≤(l.length:Int) by omega),Int.toNat_natCast]
   have e1:=ih (l.take (cutN l.length)) (by rw[jq4];omega) (by rw[jq4];omega) (sixt_take hs _)
   have e2:=ih (l.drop (cutN l.length)) (by rw[jq3];omega) (by rw[jq3];omega) (sixt_drop hs _)
   refine Ev.bind e1 ?_
   refine Ev.bind e2 ?_
   refine Ev.bind (node_ev (root_six (l:=l.take (cutN l.length)) (by rw[jq4];omega) (sixt_take hs _)) (root_six (l:=l.drop (cutN l.length)) (by rw[jq3];omega) (sixt_drop hs _))) ?_
   rw[rootL_node (by omega) h200]
   exact Ev.now _
theorem sixt_leaves (l:List S27):sixt (l.map leafS):=by
 intro b hb
 obtain⟨e,he,rfl⟩:=List.mem_map.1 hb
 exact⟨leafS_bytes e,leafS_len e⟩
def logRoot (l:List S27):List Int:=if goodLog l then rootL (l.map leafS) else[]
theorem implRootOf_ev (l:List S27) (hok:∀ e ∈ l,okR e):Ev (fun k=>qqq.f k l) (logRoot l):=by
 simp only[qqq.f]
 refine Ev.bind (implLeaves_ev l hok) ?_
 unfold leavesL logRoot
 by_cases hg:goodLog l
 ·simp only[if_pos hg,if_true]
  exact Ev.bind (implRoot_aux _ (l.map leafS) (Nat.le_refl _) (by rw[List.length_map];exact hg.1) (sixt_leaves l)) (Ev.now _)
 ·simp only[if_neg hg,Bool.false_eq_true,if_false]
  exact Ev.now _
theorem logRoot_len {l:List S27} (hg:goodLog l):(logRoot l).length=16:=by
 unfold logRoot
 rw[if_pos hg]
 exact(root_ok (by rw[List.length_map];exact hg.1) (sixt_leaves l)).2
theorem and255 (X:Int) : 0≤Go.bits .and .u64 X 255∧Go.bits .and .u64 X 255≤255:=by
 have h:((BitVec.ofInt 64 X) &&& (BitVec.ofInt 64 255)).toNat≤255:=by
  rw[BitVec.toNat_and]
  exact Nat.le_trans Nat.and_le_right (by decide)
 have e:Go.bits .and .u64 X 255=IntKind.u64.wrap ((((BitVec.ofInt 64 X) &&& (BitVec.ofInt 64 255)).toNat:Nat):Int):=rfl
 rw[e,IntKind.wrap_u64]
 omega
theorem cur_next (s:List Int) (hs:okL okB s) (p h:Int) (h0 : 0≤p) (h1:p≤1000000000000):∃ v h',qvk.f s p h=some (v,p + 1,h')∧0≤v∧v≤255:=by
 have e:wrap64 (p + 1)=p + 1:=w64 (by omega) (by omega)
 unfold qvk.f
 simp only[e]
 by_cases hp:p < (s.length:Int)
 ·rw[if_pos hp,if_pos h0,if_pos (by omega)]
  have hm:rd s p ∈ s:=by
   have:p.toNat < s.length:=by omega
   simp[rd,List.getD_eq_getElem?_getD,List.getElem?_eq_getElem this]
  have hb : 0≤rd s p∧rd s p≤255:=hs.2 _ hm
  exact⟨_,_,rfl,by rw[w64 (by omega) (by omega)];exact hb.1,by rw[w64 (by omega) (by omega)];exact hb.2⟩
 ·rw[if_neg hp,if_neg (by omega)]
  have hb:=and255 ((IntKind.u64.wrap ((IntKind.u64.wrap (IntKind.u64.wrap (h * 6364136223846793005))) + 1442695040888963407)) / 1099511627776)
  exact⟨_,_,rfl,by rw[w64 (by omega) (by omega)];exact hb.1,by rw[w64 (by omega) (by omega)];exact hb.2⟩
theorem cur_pick (s:List Int) (hs:okL okB s) (p h n:Int) (h0 : 0≤p) (h1:p≤999999999999):∃ v p' h',qwq.f s p h n=some (v,p',h')∧0≤v∧(v < n∨v=0)∧p≤p'∧p'≤p + 2:=by
 unfold qwq.f
 by_cases hn:n≤1
 ·rw[if_pos hn]
  exact⟨_,_,_,rfl,by omega,.inr rfl,by omega,by omega⟩
 ·rw[if_neg hn]
  obtain⟨v,h',e,v0,v1⟩:=cur_next s hs p h h0 (by omega)
  simp only[e,Option.bind_some]
  by_cases h2:n > 200
  ·rw[if_pos h2]
   obtain⟨v2,h2',e2,v20,v21⟩:=cur_next s hs (p + 1) h' (by omega) (by omega)
   simp only[e2,Option.bind_some,if_neg (show ¬ n=0 by omega),w64 (show -9223372036854775808≤v * 256 by omega) (show v * 256≤9223372036854775807 by omega),w64 (show -9223372036854775808≤v * 256 + v2 by omega) (show v * 256 + v2≤9223372036854775807 by omega)]
   refine⟨_,_,_,rfl,?_,.inl ?_,by omega,by omega⟩
   ·rw[Int.tmod_eq_emod_of_nonneg (by omega)];exact Int.emod_nonneg _ (by omega)
   ·rw[Int.tmod_eq_emod_of_nonneg (by omega)];exact Int.emod_lt_of_pos _ (by omega)
  ·rw[if_neg h2,if_neg (show ¬ n=0 by omega)]
   refine⟨_,_,_,rfl,?_,.inl ?_,by omega,by omega⟩
   ·rw[Int.tmod_eq_emod_of_nonneg (by omega)];exact Int.emod_nonneg _ (by omega)
   ·rw[Int.tmod_eq_emod_of_nonneg (by omega)];exact Int.emod_lt_of_pos _ (by omega)
theorem cur_one (s:List Int) (hs:okL okB s) (p h n:Int) (h0 : 0≤p) (h1:p≤999999999999):∃ b p' h',qvx.f s p h n=some (b,p',h')∧p≤p'∧p'≤p + 2:=by
 obtain⟨v,p',h',e,_,_,g1,g2⟩:=cur_pick s hs p h n h0 h1
 unfold qvx.f
 simp only[e,Option.bind_some]
 exact⟨_,_,_,rfl,g1,g2⟩
theorem wx (s:List Int) (hs:okL okB s) (d:Nat):∀ (x5:List Int) (p h:Int),0≤p→p + d≤900000000000→x5.length + d≤1000000→∃ (L:List Int) (p' h':Int),(∀ k,d < k→qkx.l0 k x5 d s p h=some (x5 ++ L,p',h'))∧isBytes L∧L.length=d∧p≤p'∧p'≤p + d:=by
 induction d with
 | zero =>
  intro x5 p h h0 h1 hl
  refine⟨[],p,h,fun k hk=>?_,(by simp[isBytes]),rfl,by omega,by omega⟩
  obtain⟨k,rfl⟩ : ∃ m,k=m + 1:=⟨k - 1,by omega⟩
  simp only[qkx.l0,if_neg (show ¬ (((0:Nat):Int) > 0) by omega),List.append_nil]
 | succ d ih =>
  intro x5 p h h0 h1 hl
  obtain⟨v,h',e,v0,v1⟩:=cur_next s hs p h h0 (by omega)
  obtain⟨L,p2,h2,hL,hb,hlen,g1,g2⟩:=ih (x5 ++ [v % 256]) (p + 1) h' (by omega) (by omega) (by rw[List.length_append,List.length_singleton];omega)
  refine⟨v % 256 :: L,p2,h2,fun k hk=>?_,?_,by rw[List.length_cons,hlen],by omega,by omega⟩
  ·obtain⟨k,rfl⟩ : ∃ m,k=m + 1:=⟨k - 1,by omega⟩
   have ed:wrap64 (((d + 1:Nat):Int) - 1)=(d:Int):=by rw[w64 (by omega) (by omega)];omega
   simp only[qkx.l0,if_pos (show(((d + 1:Nat):Int) > 0) by omega),e,Option.bind_some,if_pos (show x5.length < 140737488355328 by omega),ed]
   rw[hL k (by omega),List.append_assoc]
   rfl
  ·intro x hx
   rcases List.mem_cons.1 hx with rfl|hx
   ·omega
   ·exact hb x hx
theorem cur_bytes (s:List Int) (hs:okL okB s) (p h:Int) (n:Nat) (hn:n≤1000) (h0 : 0≤p) (h1:p≤800000000000):∃ (L:List Int) (p' h':Int),(∀ k,n < k→qkx.f k s p h n=some (L,p',h'))∧isBytes L∧L.length≤n∧p≤p'∧p'≤p + 2 + n:=by
 obtain⟨v,p1,h1',e,v0,v1,g1,g2⟩:=cur_pick s hs p h n h0 (by omega)
 obtain⟨m,rfl⟩ : ∃ m:Nat,v=m:=⟨v.toNat,by omega⟩
 obtain⟨L,p2,h2,hL,hb,hlen,g3,g4⟩:=wx s hs m [] p1 h1' (by omega) (by omega) (by simp;omega)
 refine⟨L,p2,h2,fun k hk=>?_,hb,by omega,by omega,by omega⟩
 unfold qkx.f
 simp only[e,Option.bind_some]
 rw[hL k (by omega)]
 rfl
theorem cur_secret (s:List Int) (hs:okL okB s) (p h:Int) (h0 : 0≤p) (h1:p≤999999999000):∃ (x p' h':Int),qwz.f s p h=some (x,p',h')∧p≤p'∧p'≤p + 6:=by
 obtain⟨b,p1,h1',e,g1,g2⟩:=cur_one s hs p h 16 h0 (by omega)
 unfold qwz.f
 simp only[e,Option.bind_some]
 cases b with
 | true =>
  obtain⟨v,p2,h2',e2,v0,v1,g3,g4⟩:=cur_pick s hs p1 h1' 6 (by omega) (by omega)
  simp only[if_true,e2,Option.bind_some,if_pos v0,List.length_cons,List.length_nil]
  rw[if_pos (by omega)]
  exact⟨_,_,_,rfl,by omega,by omega⟩
 | false =>
  obtain⟨v,p2,h2',e2,v0,v1,g3,g4⟩:=cur_pick s hs p1 h1' 60000 (by omega) (by omega)
  obtain⟨v3,p3,h3',e3,v03,v13,g5,g6⟩:=cur_pick s hs p2 h2' 60000 (by omega) (by omega)
  simp only[Bool.false_eq_true,if_false,e2,e3,Option.bind_some]
  exact⟨_,_,_,rfl,by omega,by omega⟩
theorem Ev.upG {α:Type} {g:Nat→Option α} {r : α} (h:Ev (fun k=>g (k + 1)) r):Ev g r:=by
 obtain⟨n,h⟩:=h
 refine⟨n + 1,fun k hk=>?_⟩
 obtain⟨k,rfl⟩ : ∃ m,k=m + 1:=⟨k - 1,by omega⟩
 exact h k (by omega)
def okE (e:S27):Prop:=okS e.f1∧okS e.f2∧isBytes e.f3∧isBytes e.f4
theorem nil_bytes:isBytes []:=fun x hx=>absurd hx List.not_mem_nil
theorem zeros_bytes (n:Nat):isBytes (List.replicate n 0):=by
 intro x hx
 obtain rfl:=List.eq_of_mem_replicate hx
 omega
theorem of_small (s:List Int) (hs:okL okB s) (p h:Int) (l:List ByteArray) (hl : 1≤l.length) (hl2:l.length≤100) (hz:∀ t ∈ l,t.size≤50) (h0 : 0≤p) (h1:p≤900000000000):∃ (t:ByteArray) (p' h':Int),qvw.f s p h l=some (t,p',h')∧t.size≤50∧p≤p'∧p'≤p + 2:=by
 obtain⟨v,p1,h1',e,v0,v1,g1,g2⟩:=cur_pick s hs p h l.length h0 (by omega)
 obtain⟨i,rfl⟩:=Int.eq_ofNat_of_zero_le v0
 have hi:i < l.length:=by omega
 unfold qvw.f
 simp only[e,Option.bind_some,if_pos v0,if_pos (show(i:Int) < (l.length:Int) by omega)]
 refine⟨_,_,_,rfl,?_,g1,g2⟩
 have:l.getD (Int.toNat (i:Int)) ByteArray.empty ∈ l:=by
  rw[Int.toNat_natCast,List.getD_eq_getElem?_getD,List.getElem?_eq_getElem hi]
  exact List.getElem_mem hi
 exact hz _ this
def redL (t:Int) (who what:ByteArray) (salt cover:List Int):Int × ByteArray × ByteArray × List Int × List Int:=if goodEntry t who what salt cover=true then(t,who,⟨#[]⟩,[],coverL what salt cover) else(0,⟨#[]⟩,⟨#[]⟩,[],[])
theorem specRed_ev (t:Int) (who what:ByteArray) (salt cover:List Int) (h1:okS who) (h2:okS what) (h3:isBytes salt):Ev (fun k=>qkk.f k t who what salt cover) (redL t who what salt cover):=by
 simp only[qkk.f]
 refine Ev.bind ⟨_,fun k hk=>specGood_eq t who what salt cover h1 h2 k hk⟩ ?_
 unfold redL
 by_cases hg:goodEntry t who what salt cover=true
 ·simp only[if_pos hg]
  exact Ev.bind (specCover_ev t who what salt cover hg h3) (Ev.now _)
 ·simp only[if_neg hg]
  exact Ev.now _
theorem empty_ok:okS (⟨#[]⟩ : ByteArray):=Nat.zero_le _
theorem logEntry_j0 (s:List Int) (hs:okL okB s) (p h:Int) (h0 : 0≤p) (h1:p≤800000000000) (t:Int) (who what:ByteArray) (salt:List Int) (hw:okS who) (hx:okS what) (hb:isBytes salt):∃ (e:S27) (p' h':Int),Ev (fun k=>qvz.j0 k s p h t who what salt) (e.f0,e.f1,e.f2,e.f3,e.f4,p',h')∧okE e∧p≤p'∧p'≤p + 2:=by
 obtain⟨b,p1,h1',e1,g1,g2⟩:=cur_one s hs p h 5 h0 (by omega)
 cases b with
 | true =>
  have hr:=specRed_ev t who what salt [] hw hx hb
  refine⟨⟨(redL t who what salt []).1,(redL t who what salt []).2.1,(redL t who what salt []).2.2.1,(redL t who what salt []).2.2.2.1,(redL t who what salt []).2.2.2.2⟩,p1,h1',?_,?_,g1,g2⟩
  ·refine Ev.upG ?_
   simp only[qvz.j0,e1,Option.bind_some,if_true]
   exact Ev.bind hr (Ev.now _)
  ·by_cases hg:goodEntry t who what salt []=true
   ·have er:redL t who what salt []=(t,who,⟨#[]⟩,[],coverL what salt []):=if_pos hg
    have hc:isBytes (coverL what salt []):=coverL_bytes what salt (cover:=[]) (fun x hx=>absurd hx List.not_mem_nil)
    rw[er]
    generalize coverL what salt []=C at hc
    exact And.intro hw (And.intro empty_ok (And.intro nil_bytes hc))
   ·have er:redL t who what salt []=(0,⟨#[]⟩,⟨#[]⟩,[],[]):=if_neg hg
    rw[er]
    exact And.intro empty_ok (And.intro empty_ok (And.intro nil_bytes nil_bytes))
 | false =>
  refine⟨⟨t,who,what,salt,[]⟩,p1,h1',?_,⟨hw,hx,hb,nil_bytes⟩,g1,g2⟩
  refine Ev.upG ?_
  simp only[qvz.j0,e1,Option.bind_some,Bool.false_eq_true,if_false]
  exact Ev.now _
theorem cur_logEntry (s:List Int) (hs:okL okB s) (p h:Int) (h0 : 0≤p) (h1:p≤700000000000):∃ (e:S27) (p' h':Int),Ev (fun k=>qvz.f k s p h) (e.f0,e.f1,e.f2,e.f3,e.f4,p',h')∧okE e∧p≤p'∧p'≤p + 20:=by
 obtain⟨v,p1,h1',e1,v0,v1,a1,b1⟩:=cur_pick s hs p h 300 h0 (by omega)
 obtain⟨w,p2,h2',e2,hw,a2,b2⟩:=of_small s hs p1 h1' [(⟨#[97,110,110]⟩ : ByteArray),(⟨#[98,111,98]⟩ : ByteArray),(⟨#[]⟩ : ByteArray)] (by decide) (by decide) (by decide) (by omega) (by omega)
 obtain⟨x,p3,h3',e3,hx,a3,b3⟩:=of_small s hs p2 h2' [(⟨#[118,105,101,119,32,100,111,99,49]⟩ : ByteArray),(⟨#[101,100,105,116]⟩ : ByteArray),(⟨#[]⟩ : ByteArray)] (by decide) (by decide) (by decide) (by omega) (by omega)
 obtain⟨L,p4,h4',e4,hb,hl,a4,b4⟩:=cur_bytes s hs p3 h3' 4 (by omega) (by omega) (by omega)
 simp only[Int.cast_ofNat_Int] at e4
 obtain⟨b,p5,h5',e5,a5,b5⟩:=cur_one s hs p4 h4' 20 (by omega) (by omega)
 have okw:okS w:=show w.size≤_ by omega
 have okx:okS x:=show x.size≤_ by omega
 have key:∀ T:Int,∃ (e:S27) (p' h':Int),Ev (fun k=>qvz.j0 k s p5 h5' T w x L) (e.f0,e.f1,e.f2,e.f3,e.f4,p',h')∧okE e∧p5≤p'∧p'≤p5 + 2:=fun T=>logEntry_j0 s hs p5 h5' (by omega) (by omega) T w x L okw okx hb
 have hL:Ev (fun k=>qkx.f k s p3 h3' 4) (L,p4,h4'):=⟨5,fun k hk=>e4 k (by omega)⟩
 cases b with
 | true =>
  obtain⟨e,p',h',he,hok,a6,b6⟩:=key 100000000000
  refine⟨e,p',h',?_,hok,by omega,by omega⟩
  simp only[qvz.f,e1,e2,e3,Option.bind_some]
  refine Ev.bind hL ?_
  simp only[e5,Option.bind_some,if_true]
  exact he
 | false =>
  obtain⟨e,p',h',he,hok,a6,b6⟩:=key v
  refine⟨e,p',h',?_,hok,by omega,by omega⟩
  simp only[qvz.f,e1,e2,e3,Option.bind_some]
  refine Ev.bind hL ?_
  simp only[e5,Option.bind_some,Bool.false_eq_true,if_false]
  exact he
theorem strOf_size (L:List Int):(strOfNums L).size=L.length:=by
 unfold strOfNums
 show(List.toArray _).size=_
 rw[List.size_toArray,List.length_map]
theorem longText_l0 (s:List Int) (d:Nat):∀ (x:List Int) (p h:Int) (i:Nat),i + d=x.length→x.length≤1000→∃ t:ByteArray,(∀ k,d < k→qvj.l0 k x (x.length:Int) (i:Int) s p h=some (t,p,h))∧t.size=x.length:=by
 induction d with
 | zero =>
  intro x p h i hi hl
  refine⟨strOfNums x,fun k hk=>?_,strOf_size x⟩
  obtain⟨k,rfl⟩ : ∃ m,k=m + 1:=⟨k - 1,by omega⟩
  rw[qvj.l0,if_neg (by omega)]
 | succ d ih =>
  intro x p h i hi hl
  obtain⟨t,e,ht⟩:=ih (x.set i 112) p h (i + 1) (by rw[List.length_set];omega) (by rw[List.length_set];omega)
  rw[List.length_set] at e ht
  refine⟨t,fun k hk=>?_,ht⟩
  obtain⟨k,rfl⟩ : ∃ m,k=m + 1:=⟨k - 1,by omega⟩
  have ew:wrap64 ((i:Int) + 1)=((i + 1:Nat):Int):=by rw[w64 (by omega) (by omega)];rfl
  rw[qvj.l0,if_pos (by omega),if_pos (by omega),if_pos (by omega),ew,Int.toNat_natCast]
  exact e k (by omega)
theorem cur_longText (s:List Int) (hs:okL okB s) (p h:Int) (h0 : 0≤p) (h1:p≤800000000000):∃ (t:ByteArray) (p' h':Int),(∀ k,100 < k→qvj.f k s p h 60=some (t,p',h'))∧t.size≤62∧p≤p'∧p'≤p + 2:=by
 obtain⟨v,p1,h1',e1,v0,v1,a1,b1⟩:=cur_pick s hs p h 3 h0 (by omega)
 have ew:wrap64 ((wrap64 (60 - 1)) + v)=59 + v:=by rw[w64 (n:=60 - 1) (by omega) (by omega),w64 (by omega) (by omega)];omega
 obtain⟨t,e,ht⟩:=longText_l0 s (List.replicate (59 + v).toNat (0:Int)).length (List.replicate (59 + v).toNat 0) p1 h1' 0 (by omega) (by rw[List.length_replicate];omega)
 refine⟨t,p1,h1',fun k hk=>?_,by rw[ht,List.length_replicate];omega,a1,b1⟩
 simp only[qvj.f,e1,Option.bind_some,ew,if_pos (show 0≤59 + v by omega),if_pos (show(59 + v).toNat≤281474976710656 by omega)]
 exact e k (by rw[List.length_replicate];omega)
theorem cur_odd (s:List Int) (hs:okL okB s) (p h:Int) (h0 : 0≤p) (h1:p≤700000000000) (e:S27) (he:okE e):∃ (e':S27) (p' h':Int),Ev (fun k=>qvv.f k s p h e.f0 e.f1 e.f2 e.f3 e.f4) (e'.f0,e'.f1,e'.f2,e'.f3,e'.f4,p',h')∧okE e'∧p≤p'∧p'≤p + 30:=by
 obtain⟨k1,k2,k3,k4⟩:=he
 obtain⟨v,p1,h1',e1,v0,v1,a1,b1⟩:=cur_pick s hs p h 16 h0 (by omega)
 by_cases c0:v=0
 ·obtain⟨w,p2,h2,e2,w0,w1,a2,b2⟩:=cur_pick s hs p1 h1' 3 (by omega) (by omega)
  refine⟨⟨rd [-1,100000000000,100000000001] w,e.f1,e.f2,e.f3,e.f4⟩,p2,h2,⟨0,fun k _=>?_⟩,⟨k1,k2,k3,k4⟩,by omega,by omega⟩
  simp only[qvv.f,e1,Option.bind_some,if_pos c0,e2,if_pos w0,List.length_cons,List.length_nil]
  rw[if_pos (by omega)]
 by_cases c1:v=1
 ·obtain⟨t,p2,h2,e2,ht,a2,b2⟩:=cur_longText s hs p1 h1' (by omega) (by omega)
  refine⟨⟨e.f0,t,e.f2,e.f3,e.f4⟩,p2,h2,⟨101,fun k hk=>?_⟩,⟨show t.size≤_ by omega,k2,k3,k4⟩,by omega,by omega⟩
  simp only[qvv.f,e1,Option.bind_some,if_neg c0,if_pos c1,e2 k (by omega)]
 by_cases c2:v=2
 ·obtain⟨L,p2,h2,e2,hb,hl,a2,b2⟩:=cur_bytes s hs p1 h1' 18 (by omega) (by omega) (by omega)
  simp only[Int.cast_ofNat_Int] at e2
  refine⟨⟨e.f0,e.f1,e.f2,e.f3,L⟩,p2,h2,⟨20,fun k hk=>?_⟩,⟨k1,k2,k3,hb⟩,by omega,by omega⟩
  simp only[qvv.f,e1,Option.bind_some,if_neg c0,if_neg c1,if_pos c2,e2 k (by omega)]
 by_cases c3:v=3
 ·obtain⟨t,p2,h2,e2,ht,a2,b2⟩:=of_small s hs p1 h1' [(⟨#[9]⟩ : ByteArray),(⟨#[120]⟩ : ByteArray)] (by decide) (by decide) (by decide) (by omega) (by omega)
  refine⟨⟨e.f0,e.f1,t,e.f3,e.f4⟩,p2,h2,⟨0,fun k hk=>?_⟩,⟨k1,show t.size≤_ by omega,k3,k4⟩,by omega,by omega⟩
  simp only[qvv.f,e1,Option.bind_some,if_neg c0,if_neg c1,if_neg c2,if_pos c3,e2]
 by_cases c4:v=4
 ·obtain⟨w,p2,h2,e2,w0,w1,a2,b2⟩:=cur_pick s hs p1 h1' 3 (by omega) (by omega)
  have ew:wrap64 (19 + w)=19 + w:=w64 (by omega) (by omega)
  refine⟨⟨e.f0,e.f1,e.f2,List.replicate (19 + w).toNat 0,e.f4⟩,p2,h2,⟨0,fun k hk=>?_⟩,⟨k1,k2,zeros_bytes _,k4⟩,by omega,by omega⟩
  simp only[qvv.f,e1,Option.bind_some,if_neg c0,if_neg c1,if_neg c2,if_neg c3,if_pos c4,e2,ew,if_pos (show 0≤19 + w by omega),if_pos (show(19 + w).toNat≤281474976710656 by omega)]
 ·refine⟨e,p1,h1',⟨0,fun k hk=>?_⟩,⟨k1,k2,k3,k4⟩,by omega,by omega⟩
  simp only[qvv.f,e1,Option.bind_some,if_neg c0,if_neg c1,if_neg c2,if_neg c3,if_neg c4]
theorem log_l1 (s:List Int) (n:Nat) (hn:n≤1000) (d:Nat):∀ (x:List S27) (p h:Int),x.length + d=n∨(n≤x.length∧d=0)→(∀ e ∈ x,okE e)→∃ l:List S27,(∀ k,d < k→qvq.l1 k x (n:Int) s p h=some (l,p,h))∧(∀ e ∈ l,okE e)∧l.length≤x.length + d:=by
 induction d with
 | zero =>
  intro x p h hd hx
  refine⟨x,fun k hk=>?_,hx,by omega⟩
  obtain⟨k,rfl⟩ : ∃ m,k=m + 1:=⟨k - 1,by omega⟩
  rw[qvq.l1,if_neg (by omega)]
 | succ d ih =>
  intro x p h hd hx
  obtain⟨l,e,hl,hz⟩:=ih (x ++ [⟨(x.length:Int),⟨#[]⟩,⟨#[]⟩,[],[]⟩]) p h (by rw[List.length_append,List.length_singleton];omega) (by
   intro y hy
   rcases List.mem_append.1 hy with hy|hy
   ·exact hx y hy
   ·obtain rfl:=List.mem_singleton.1 hy
    exact⟨empty_ok,empty_ok,nil_bytes,nil_bytes⟩)
  rw[List.length_append,List.length_singleton] at hz
  refine⟨l,fun k hk=>?_,hl,by omega⟩
  obtain⟨k,rfl⟩ : ∃ m,k=m + 1:=⟨k - 1,by omega⟩
  rw[qvq.l1,if_pos (by omega),if_pos (by omega)]
  exact e k (by omega)
theorem log_j2 (s:List Int) (hs:okL okB s) (x:List S27) (hx:∀ e ∈ x,okE e) (p h:Int) (h0 : 0≤p) (h1:p≤700000000000):∃ (l:List S27) (p' h':Int),Ev (fun k=>qvq.j2 k x s p h) (l,p',h')∧(∀ e ∈ l,okE e)∧p≤p'∧p'≤p + 4∧l.length≤x.length + 300:=by
 obtain⟨b,p1,h1',e1,a1,b1⟩:=cur_one s hs p h 60 h0 (by omega)
 cases b with
 | false =>
  refine⟨x,p1,h1',?_,hx,a1,by omega,by omega⟩
  refine Ev.upG ?_
  simp only[qvq.j2,e1,Option.bind_some,Bool.false_eq_true,if_false]
  exact Ev.now _
 | true =>
  obtain⟨w,p2,h2,e2,w0,w1,a2,b2⟩:=cur_pick s hs p1 h1' 3 (by omega) (by omega)
  obtain⟨m,rfl⟩:=Int.eq_ofNat_of_zero_le w0
  have ew:wrap64 (199 + (m:Int))=((199 + m:Nat):Int):=by rw[w64 (by omega) (by omega)];omega
  obtain⟨l,e,hl,hz⟩:=log_l1 s (199 + m) (by omega) (199 + m - x.length) x p2 h2 (by omega) hx
  refine⟨l,p2,h2,?_,hl,by omega,by omega,by omega⟩
  refine Ev.upG ?_
  simp only[qvq.j2,e1,Option.bind_some,if_true,e2,ew]
  exact⟨199 + m - x.length + 1,fun k hk=>e k (by omega)⟩
theorem rd27_mem {l:List S27} (h : 0 < l.length):wk l 0 ∈ l:=by
 unfold wk
 rw[show(0:Int).toNat=0 from rfl,List.getD_eq_getElem?_getD,List.getElem?_eq_getElem h]
 exact List.getElem_mem h
theorem log_j1 (s:List Int) (hs:okL okB s) (x:List S27) (hx:∀ e ∈ x,okE e) (b:Bool) (hb:b=true→0 < x.length) (p h:Int) (h0 : 0≤p) (h1:p≤600000000000):∃ (l:List S27) (p' h':Int),Ev (fun k=>qvq.j1 k x b s p h) (l,p',h')∧(∀ e ∈ l,okE e)∧p≤p'∧p'≤p + 40∧l.length≤x.length + 300:=by
 cases b with
 | false =>
  obtain⟨l,p',h',e,hl,a,c,hz⟩:=log_j2 s hs x hx p h h0 (by omega)
  refine⟨l,p',h',?_,hl,a,by omega,hz⟩
  refine Ev.upG ?_
  simp only[qvq.j1,Bool.false_eq_true,if_false]
  exact e
 | true =>
  have hp:=hb rfl
  obtain⟨e1,p1,h1',he,hok,a1,b1⟩:=cur_odd s hs p h h0 (by omega) (wk x 0) (hx _ (rd27_mem hp))
  obtain⟨l,p',h',e,hl,a,c,hz⟩:=log_j2 s hs (x.set 0 ⟨e1.f0,e1.f1,e1.f2,e1.f3,e1.f4⟩) (fun y hy=>by
   rcases List.mem_or_eq_of_mem_set hy with hy|rfl
   ·exact hx y hy
   ·exact hok) p1 h1' (by omega) (by omega)
  rw[List.length_set] at hz
  refine⟨l,p',h',?_,hl,by omega,by omega,hz⟩
  refine Ev.upG ?_
  simp only[qvq.j1,if_true,if_pos (show(0:Int) < (x.length:Int) by omega)]
  exact Ev.bind he e
theorem log_l0 (s:List Int) (hs:okL okB s) (d:Nat) (hd:d≤1000):∀ (x:List S27) (p h:Int),x.length + d≤2000→(∀ e ∈ x,okE e)→0≤p→p + 20 * d≤500000000000→∃ (l:List S27) (p' h':Int),Ev (fun k=>qvq.l0 k x (d:Int) s p h) (l,p',h')∧(∀ e ∈ l,okE e)∧p≤p'∧p'≤p + 20 * d + 50∧l.length≤x.length + d + 300:=by
 induction d with
 | zero =>
  intro x p h hl hx h0 h1
  obtain⟨b,p1,h1',e1,a1,b1⟩:=cur_one s hs p h 40 h0 (by omega)
  have key:=fun (c:Bool) (hc:c=true→0 < x.length)=>log_j1 s hs x hx c hc p1 h1' (by omega) (by omega)
  cases b with
  | true =>
   obtain⟨l,p',h',e,hl,a,c,hz⟩:=key (decide ((x.length:Int) > 0)) (fun h=>by have:=of_decide_eq_true h;omega)
   refine⟨l,p',h',?_,hl,by omega,by omega,by omega⟩
   refine Ev.upG ?_
   simp only[qvq.l0,if_neg (show ¬ (((0:Nat):Int) > 0) by omega),e1,Option.bind_some,if_true]
   exact e
  | false =>
   obtain⟨l,p',h',e,hl,a,c,hz⟩:=key false (fun h=>by cases h)
   refine⟨l,p',h',?_,hl,by omega,by omega,by omega⟩
   refine Ev.upG ?_
   simp only[qvq.l0,if_neg (show ¬ (((0:Nat):Int) > 0) by omega),e1,Option.bind_some,Bool.false_eq_true,if_false]
   exact e
 | succ d ih =>
  intro x p h hl hx h0 h1
  obtain⟨e1,p1,h1',he,hok,a1,b1⟩:=cur_logEntry s hs p h h0 (by omega)
  obtain⟨l,p',h',e,hl2,a,c,hz⟩:=ih (by omega) (x ++ [⟨e1.f0,e1.f1,e1.f2,e1.f3,e1.f4⟩]) p1 h1' (by rw[List.length_append,List.length_singleton];omega) (by
   intro y hy
   rcases List.mem_append.1 hy with hy|hy
   ·exact hx y hy
   ·obtain rfl:=List.mem_singleton.1 hy
    exact hok) (by omega) (by omega)
  rw[List.length_append,List.length_singleton] at hz
  refine⟨l,p',h',?_,hl2,by omega,by omega,by omega⟩
  refine Ev.upG ?_
  have ew:wrap64 (((d + 1:Nat):Int) - 1)=(d:Int):=by rw[w64 (by omega) (by omega)];omega
  simp only[qvq.l0,if_pos (show(((d + 1:Nat):Int) > 0) by omega),ew]
  refine Ev.bind he ?_
  simp only[if_pos (show x.length < 1599289640401 by omega)]
  exact e
theorem cur_log (s:List Int) (hs:okL okB s) (n:Nat) (hn:n≤100) (p h:Int) (h0 : 0≤p) (h1:p≤400000000000):∃ (l:List S27) (p' h':Int),Ev (fun k=>qvq.f k s p h (n:Int)) (l,p',h')∧(∀ e ∈ l,okE e)∧p≤p'∧p'≤p + 20 * n + 60∧l.length≤n + 300:=by
 obtain⟨v,p1,h1',e1,v0,v1,a1,b1⟩:=cur_pick s hs p h n h0 (by omega)
 obtain⟨m,rfl⟩:=Int.eq_ofNat_of_zero_le v0
 obtain⟨l,p',h',e,hl,a,c,hz⟩:=log_l0 s hs m (by omega) [] p1 h1' (by simp;omega) (fun e he=>absurd he List.not_mem_nil) (by omega) (by omega)
 rw[List.length_nil] at hz
 refine⟨l,p',h',?_,hl,by omega,by omega,by omega⟩
 simp only[qvq.f,e1,Option.bind_some]
 exact e
def pwm (b:Int) (e:Nat):Int:=b ^ e % 2147483579
theorem pwm_range (b:Int) (e:Nat) : 0≤pwm b e∧pwm b e < 2147483579:=⟨Int.emod_nonneg _ (by omega),Int.emod_lt_of_pos _ (by omega)⟩
theorem pow_emod' (a m:Int) (n:Nat):(a % m) ^ n % m=a ^ n % m:=by
 induction n with
 | zero=>simp
 | succ n ih=>rw[Int.pow_succ,Int.pow_succ,Int.mul_emod,ih,Int.emod_emod,← Int.mul_emod]
theorem pow_double (x:Int) (h:Nat):x ^ (2 * h)=(x * x) ^ h:=by
 induction h with
 | zero=>simp
 | succ h ih=>rw[show 2 * (h + 1)=2 * h + 1 + 1 by omega,Int.pow_succ,Int.pow_succ,ih,Int.pow_succ,Int.mul_assoc]
theorem mulP {a b:Int} (ha : 0≤a) (ha2:a < 2147483579) (hb : 0≤b) (hb2:b < 2147483579) : 0≤a * b∧a * b≤4611685717779682084:=by
 refine⟨Int.mul_nonneg ha hb,?_⟩
 have:=Int.mul_le_mul (show a≤2147483578 by omega) (show b≤2147483578 by omega) hb (by omega)
 omega
theorem mulM {a b:Int} (ha : 0≤a) (ha2:a < 2147483579) (hb : 0≤b) (hb2:b < 2147483579):Int.tmod (wrap64 (a * b)) 2147483579=a * b % 2147483579:=by
 have:=mulP ha ha2 hb hb2
 rw[w64 (by omega) (by omega),Int.tmod_eq_emod_of_nonneg this.1]
theorem and1 (e:Nat) (he:e < 9223372036854775808):Go.bits .and .i64 (e:Int) 1=((e % 2:Nat):Int):=by
 have h1:(BitVec.ofInt 64 (e:Int)).toNat=e:=by
  rw[BitVec.ofInt_natCast,BitVec.toNat_ofNat];exact Nat.mod_eq_of_lt (by omega)
 have h:((BitVec.ofInt 64 (e:Int)) &&& (BitVec.ofInt 64 1)).toNat=e % 2:=by
  rw[BitVec.toNat_and,h1]
  exact Nat.and_one_is_mod e
 have e0:Go.bits .and .i64 (e:Int) 1=IntKind.i64.wrap ((((BitVec.ofInt 64 (e:Int)) &&& (BitVec.ofInt 64 1)).toNat:Nat):Int):=rfl
 rw[e0,h]
 exact IntWalk.i64_in _ (by omega)
theorem ypow_l0:∀ (f k e:Nat) (x0 x7:Int),0≤x0→x0 < 2147483579→0≤x7→x7 < 2147483579→e < 2 ^ f→f≤60→f < k→qzv.l0 k x0 e 2147483579 x7=some (x7 * x0 ^ e % 2147483579):=by
 intro f
 induction f with
 | zero =>
  intro k e x0 x7 h0 h1 h2 h3 he hf hk
  obtain⟨k,rfl⟩ : ∃ m,k=m + 1:=⟨k - 1,by omega⟩
  obtain rfl:e=0:=by simpa using he
  simp only[qzv.l0,if_neg (show ¬ (((0:Nat):Int) > 0) by omega)]
  rw[Int.pow_zero,Int.mul_one,Int.emod_eq_of_lt h2 h3]
 | succ f ih =>
  intro k e x0 x7 h0 h1 h2 h3 he hf hk
  obtain⟨k,rfl⟩ : ∃ m,k=m + 1:=⟨k - 1,by omega⟩
  by_cases hz:e=0
  ·subst hz
   simp only[qzv.l0,if_neg (show ¬ (((0:Nat):Int) > 0) by omega)]
   rw[Int.pow_zero,Int.mul_one,Int.emod_eq_of_lt h2 h3]
  ·have hlim:e < 9223372036854775808:=Nat.lt_of_lt_of_le he (Nat.le_trans (Nat.pow_le_pow_right (by omega) (show f + 1≤61 by omega)) (by decide))
   have hdiv:((e:Int) / 2)=((e / 2:Nat):Int):=by omega
   have hhalf:e / 2 < 2 ^ f:=by rw[Nat.pow_succ] at he;omega
   have s0 : 0≤x0 * x0 % 2147483579:=Int.emod_nonneg _ (by omega)
   have s1:x0 * x0 % 2147483579 < 2147483579:=Int.emod_lt_of_pos _ (by omega)
   have t0 : 0≤x7 * x0 % 2147483579:=Int.emod_nonneg _ (by omega)
   have t1:x7 * x0 % 2147483579 < 2147483579:=Int.emod_lt_of_pos _ (by omega)
   simp only[qzv.l0,if_pos (show((e:Int) > 0) by omega),and1 e hlim,if_neg (show ¬ ((2147483579:Int)=0) by omega),mulM h0 h1 h0 h1,mulM h2 h3 h0 h1,hdiv]
   by_cases ho:e % 2=1
   ·rw[if_pos (by omega),ih k (e / 2) _ _ s0 s1 t0 t1 hhalf (by omega) (by omega)]
    congr 1
    rw[Int.mul_emod,pow_emod',Int.emod_emod,← Int.mul_emod,← pow_double]
    conv=>rhs;rw[show e=2 * (e / 2) + 1 by omega,Int.pow_succ]
    congr 1
    ac_rfl
   ·rw[if_neg (by omega),ih k (e / 2) _ _ s0 s1 h2 h3 hhalf (by omega) (by omega)]
    congr 1
    rw[Int.mul_emod,pow_emod',← Int.mul_emod,← pow_double]
    conv=>rhs;rw[show e=2 * (e / 2) by omega]
theorem ypow_eq (b:Int) (e:Nat) (h0 : 0≤b) (h1:b < 2147483579) (he:e < 2199023255552) (k:Nat) (hk : 50≤k):qzv.f k b e 2147483579=some (pwm b e):=by
 unfold qzv.f
 rw[if_neg (by omega),Int.tmod_eq_emod_of_nonneg h0,Int.emod_eq_of_lt h0 h1,ypow_l0 41 k e b 1 h0 h1 (by omega) (by omega) (by simpa using he) (by omega) (by omega),Int.one_mul]
 rfl
theorem shr_nat (e n:Nat) (hn:n≤64):shr .i64 (e:Int) (n:Int)=((e / 2 ^ n:Nat):Int):=by
 unfold shr
 rw[Int.toNat_natCast,Nat.min_eq_left (show n≤IntKind.i64.bits from hn)]
 simp
theorem l2Power_l0 (e:Nat) (he:e < 2199023255552) (x0:Int) (h0 : 0≤x0) (h1:x0 < 2147483579):∀ (n k:Nat) (x7:Int),n≤41→x7=x0 ^ (e / 2 ^ n) % 2147483579→n < k→zqk.l0 k x0 e 2147483579 x7 ((n:Int) - 1)=some (x0 ^ e % 2147483579):=by
 intro n
 induction n with
 | zero =>
  intro k x7 hn hx hk
  obtain⟨k,rfl⟩ : ∃ m,k=m + 1:=⟨k - 1,by omega⟩
  simp only[zqk.l0,if_neg (show ¬ (((0:Nat):Int) - 1 ≥ 0) by omega)]
  rw[hx,Nat.pow_zero,Nat.div_one]
 | succ n ih =>
  intro k x7 hn hx hk
  obtain⟨k,rfl⟩ : ∃ m,k=m + 1:=⟨k - 1,by omega⟩
  have en:(((n + 1:Nat):Int) - 1)=(n:Int):=by omega
  have ew:IntKind.u64.wrap (n:Int)=(n:Int):=by rw[IntKind.wrap_u64];omega
  have em:wrap64 ((n:Int) - 1)=(n:Int) - 1:=w64 (by omega) (by omega)
  have hq:e / 2 ^ n < 9223372036854775808:=Nat.lt_of_le_of_lt (Nat.div_le_self _ _) (by omega)
  have hh:e / 2 ^ (n + 1)=(e / 2 ^ n) / 2:=by rw[Nat.pow_succ,Nat.div_div_eq_div_mul]
  have x0' : 0≤x7:=by rw[hx];exact Int.emod_nonneg _ (by omega)
  have x1':x7 < 2147483579:=by rw[hx];exact Int.emod_lt_of_pos _ (by omega)
  have s0 : 0≤x7 * x7 % 2147483579:=Int.emod_nonneg _ (by omega)
  have s1:x7 * x7 % 2147483579 < 2147483579:=Int.emod_lt_of_pos _ (by omega)
  have hsq:x7 * x7 % 2147483579=x0 ^ (2 * ((e / 2 ^ n) / 2)) % 2147483579:=by
   rw[hx,hh,← Int.mul_emod,Nat.two_mul,Int.pow_add]
  simp only[zqk.l0,en,if_pos (show((n:Int) ≥ 0) by omega),if_neg (show ¬ ((2147483579:Int)=0) by omega),ew,shr_nat e n (by omega),and1 _ hq,mulM x0' x1' x0' x1',mulM s0 s1 h0 h1,em]
  by_cases ho:(e / 2 ^ n) % 2=1
  ·rw[if_pos (by omega)]
   refine ih k _ (by omega) ?_ (by omega)
   rw[hsq,Int.mul_emod,Int.emod_emod,← Int.mul_emod,← Int.pow_succ,Nat.succ_eq_add_one,show 2 * (e / 2 ^ n / 2) + 1=e / 2 ^ n by omega]
  ·rw[if_neg (by omega)]
   refine ih k _ (by omega) ?_ (by omega)
   rw[hsq,show 2 * (e / 2 ^ n / 2)=e / 2 ^ n by omega]
theorem l2Power_eq (b:Int) (e:Nat) (h0 : 0≤b) (h1:b < 2147483579) (he:e < 2199023255552) (k:Nat) (hk : 50≤k):zqk.f k b e 2147483579=some (pwm b e):=by
 unfold zqk.f
 exact l2Power_l0 e he b h0 h1 41 k 1 (by omega) (by rw[Nat.div_eq_of_lt (by simpa using he),Int.pow_zero];rfl) (by omega)
attribute [irreducible] pwm
def numL (l:List Int):Int:=rd l 0 + 256 * rd l 1 + 65536 * rd l 2 + 16777216 * rd l 3
theorem or_nat (a b:Nat) (ha:a < 4611686018427387904) (hb:b < 4611686018427387904):Go.bits .or .i64 (a:Int) (b:Int)=((a ||| b:Nat):Int):=by
 have h1:(BitVec.ofInt 64 (a:Int)).toNat=a:=by
  rw[BitVec.ofInt_natCast,BitVec.toNat_ofNat];exact Nat.mod_eq_of_lt (by omega)
 have h2:(BitVec.ofInt 64 (b:Int)).toNat=b:=by
  rw[BitVec.ofInt_natCast,BitVec.toNat_ofNat];exact Nat.mod_eq_of_lt (by omega)
 have h3:a ||| b < 2 ^ 62:=Nat.or_lt_two_pow (by simpa using ha) (by simpa using hb)
 have e0:Go.bits .or .i64 (a:Int) (b:Int)=IntKind.i64.wrap ((((BitVec.ofInt 64 (a:Int)) ||| (BitVec.ofInt 64 (b:Int))).toNat:Nat):Int):=rfl
 rw[e0,BitVec.toNat_or,h1,h2]
 exact IntWalk.i64_in _ (by omega)
theorem or_add (i:Nat) (a b:Int) (ha0 : 0≤a) (ha:a < (2 ^ i:Nat)) (hb0 : 0≤b) (hb:b < 4294967296) (hi:i≤24):Go.bits .or .i64 a (b * (2 ^ i:Nat))=a + b * (2 ^ i:Nat):=by
 obtain⟨a,rfl⟩ : ∃ n:Nat,a=n:=⟨a.toNat,by omega⟩
 obtain⟨b,rfl⟩ : ∃ n:Nat,b=n:=⟨b.toNat,by omega⟩
 have hp : 2 ^ i≤16777216:=Nat.le_trans (Nat.pow_le_pow_right (by omega) hi) (by decide)
 have hb':b * 2 ^ i < 4611686018427387904:=by
  have:b * 2 ^ i≤4294967296 * 16777216:=Nat.mul_le_mul (by omega) hp
  omega
 rw[← Int.natCast_mul,or_nat a (b * 2 ^ i) (by omega) hb',Nat.or_comm,Nat.mul_comm,← Nat.two_pow_add_eq_or_of_lt (show a < 2 ^ i by omega)]
 rw[Nat.mul_comm,Int.natCast_add,Int.natCast_mul]
 omega
theorem rd_byte {l:List Int} (h:isBytes l) {i:Nat} (hi:i < l.length) : 0≤rd l i∧rd l i≤255:=by
 refine h _ ?_
 rw[rd_nat hi]
 exact List.getElem_mem hi
theorem implNum_eq (l:List Int) (h:isBytes l) (hl : 4≤l.length):qzk.f l=some (numL l):=by
 have b0:=rd_byte h (i:=0) (by omega)
 have b1:=rd_byte h (i:=1) (by omega)
 have b2:=rd_byte h (i:=2) (by omega)
 have b3:=rd_byte h (i:=3) (by omega)
 simp only[Int.cast_ofNat_Int] at b0 b1 b2 b3
 unfold qzk.f
 rw[if_neg (by omega),if_pos (by omega),if_pos (by omega),if_pos (by omega),if_pos (by omega),w64 (n:=rd l 0) (by omega) (by omega),w64 (n:=rd l 1) (by omega) (by omega),w64 (n:=rd l 2) (by omega) (by omega),w64 (n:=rd l 3) (by omega) (by omega),w64 (n:=rd l 1 * 256) (by omega) (by omega),w64 (n:=rd l 2 * 65536) (by omega) (by omega),w64 (n:=rd l 3 * 16777216) (by omega) (by omega)]
 have e1:=or_add 8 (rd l 0) (rd l 1) (by omega) (by simp;omega) (by omega) (by omega) (by omega)
 have e2:=or_add 16 (rd l 0 + rd l 1 * 256) (rd l 2) (by omega) (by simp;omega) (by omega) (by omega) (by omega)
 have e3:=or_add 24 (rd l 0 + rd l 1 * 256 + rd l 2 * 65536) (rd l 3) (by omega) (by simp;omega) (by omega) (by omega) (by omega)
 simp only[show((2 ^ 8:Nat):Int)=256 from rfl,show((2 ^ 16:Nat):Int)=65536 from rfl,show((2 ^ 24:Nat):Int)=16777216 from rfl] at e1 e2 e3
 rw[e1,e2,e3]
 simp only[numL,Option.some.injEq]
 omega
theorem specNum_eq (l:List Int) (h:isBytes l) (hl : 4≤l.length) (k:Nat) (hk : 5≤k):zqj.f k l=some (numL l):=by
 have b0:=rd_byte h (i:=0) (by omega)
 have b1:=rd_byte h (i:=1) (by omega)
 have b2:=rd_byte h (i:=2) (by omega)
 have b3:=rd_byte h (i:=3) (by omega)
 simp only[Int.cast_ofNat_Int] at b0 b1 b2 b3
 obtain⟨k,rfl⟩ : ∃ m,k=m + 5:=⟨k - 5,by omega⟩
 unfold zqj.f
 rw[zqj.l0,if_pos (by omega),if_pos (by omega),if_pos (by omega),show wrap64 ((3:Int) - 1)=2 from(w64 (by omega) (by omega)).trans (by omega),w64 (n:=(0:Int) * 256) (by omega) (by omega),w64 (n:=rd l 3) (by omega) (by omega),w64 (n:=(0:Int) * 256 + rd l 3) (by omega) (by omega)]
 rw[zqj.l0,if_pos (by omega),if_pos (by omega),if_pos (by omega),show wrap64 ((2:Int) - 1)=1 from(w64 (by omega) (by omega)).trans (by omega),w64 (n:=rd l 2) (by omega) (by omega),w64 (n:=((0:Int) * 256 + rd l 3) * 256) (by omega) (by omega),w64 (n:=((0:Int) * 256 + rd l 3) * 256 + rd l 2) (by omega) (by omega)]
 rw[zqj.l0,if_pos (by omega),if_pos (by omega),if_pos (by omega),show wrap64 ((1:Int) - 1)=0 from(w64 (by omega) (by omega)).trans (by omega),w64 (n:=rd l 1) (by omega) (by omega),w64 (n:=(((0:Int) * 256 + rd l 3) * 256 + rd l 2) * 256) (by omega) (by omega),w64 (n:=(((0:Int) * 256 + rd l 3) * 256 + rd l 2) * 256 + rd l 1) (by omega) (by omega)]
 rw[zqj.l0,if_pos (by omega),if_pos (by omega),if_pos (by omega),show wrap64 ((0:Int) - 1) = -1 from(w64 (by omega) (by omega)).trans (by omega),w64 (n:=rd l 0) (by omega) (by omega),w64 (n:=((((0:Int) * 256 + rd l 3) * 256 + rd l 2) * 256 + rd l 1) * 256) (by omega) (by omega),w64 (n:=((((0:Int) * 256 + rd l 3) * 256 + rd l 2) * 256 + rd l 1) * 256 + rd l 0) (by omega) (by omega)]
 rw[zqj.l0,if_neg (by omega)]
 simp only[numL,Option.some.injEq]
 omega
theorem numL_range (l:List Int) (h:isBytes l) (hl : 4≤l.length) : 0≤numL l∧numL l≤4294967295:=by
 have b0:=rd_byte h (i:=0) (by omega)
 have b1:=rd_byte h (i:=1) (by omega)
 have b2:=rd_byte h (i:=2) (by omega)
 have b3:=rd_byte h (i:=3) (by omega)
 simp only[Int.cast_ofNat_Int] at b0 b1 b2 b3
 unfold numL
 omega
def chalL (r:Int) (d:List Int):Int:=numL (dg (yb r ++ dg d)) % 1073741789
theorem chalL_range (r:Int) (d:List Int) : 0≤chalL r d∧chalL r d < 1073741789:=⟨Int.emod_nonneg _ (by omega),Int.emod_lt_of_pos _ (by omega)⟩
theorem implChal_eq (r:Int) (d:List Int) (hd:isBytes d) (hl:d.length≤20000):qqx.f r d=some (chalL r d):=by
 have y1:qqw.f r=some (yb r):=rfl
 have h1:=dg_len d
 have h2:=dg_len (yb r ++ dg d)
 have h3:=numL_range (dg (yb r ++ dg d)) (dg_bytes _) (by omega)
 unfold qqx.f
 rw[y1,Option.bind_some,implDigest_eq d hd hl,Option.bind_some,if_pos (by rw[h1,yb_len];omega),implDigest_eq _ (isBytes_append (yb_bytes _) (dg_bytes _)) (by rw[List.length_append,h1,yb_len];omega),Option.bind_some,implNum_eq _ (dg_bytes _) (by omega),Option.bind_some,Int.tmod_eq_emod_of_nonneg h3.1]
 rfl
theorem specChal_ev (r:Int) (d:List Int) (hr0 : 0≤r) (hr:r≤9223372036854775807) (hd:isBytes d) (hl:d.length≤20000):Ev (fun k=>qxx.f k r d) (chalL r d):=by
 have h1:=dg_len d
 have h2:=dg_len (yb r ++ dg d)
 have h3:=numL_range (dg (yb r ++ dg d)) (dg_bytes _) (by omega)
 simp only[qxx.f]
 refine Ev.bind ⟨5,fun k hk=>specBytes_eq r hr0 hr k hk⟩ ?_
 simp only[if_pos (show([]:List Int).length + (yb r).length < 140737488355328 by rw[yb_len];simp),List.nil_append,Option.bind_some]
 refine Ev.bind (specDigest_ev d hd (by omega)) ?_
 simp only[if_pos (show(yb r).length + (dg d).length < 140737488355328 by rw[yb_len,h1];omega)]
 refine Ev.bind (specDigest_ev _ (isBytes_append (yb_bytes _) (dg_bytes _)) (by rw[List.length_append,h1,yb_len];omega)) ?_
 refine Ev.bind ⟨5,fun k hk=>specNum_eq _ (dg_bytes _) (by omega) k hk⟩ ?_
 simp only[Int.tmod_eq_emod_of_nonneg h3.1]
 exact Ev.now _
def pubOk (p:Int):Prop:=2≤p∧p < 2147483579∧pwm p 1073741789=1
instance (p:Int):Decidable (pubOk p):=by unfold pubOk;infer_instance
def verOk (p:Int) (d:List Int) (r s:Int):Prop:=pubOk p∧d.length≤20000∧1≤r∧r < 2147483579∧0≤s∧s < 1073741789
instance (p:Int) (d:List Int) (r s:Int):Decidable (verOk p d r s):=by unfold verOk;infer_instance
def verL (p:Int) (d:List Int) (r s:Int):Bool:=if verOk p d r s then pwm 4 s.toNat == r * pwm p (chalL r d).toNat % 2147483579 else false
theorem verL_bad {p:Int} {d:List Int} {r s:Int} (h:¬ verOk p d r s):verL p d r s=false:=if_neg h
theorem ypow_at (b e:Int) (h0 : 0≤b) (h1:b < 2147483579) (he0 : 0≤e) (he:e < 2199023255552) (k:Nat) (hk : 50≤k):qzv.f k b e 2147483579=some (pwm b e.toNat):=by
 have:=ypow_eq b e.toNat h0 h1 (by omega) k hk
 rwa [Int.toNat_of_nonneg he0] at this
theorem l2Power_at (b e:Int) (h0 : 0≤b) (h1:b < 2147483579) (he0 : 0≤e) (he:e < 2199023255552) (k:Nat) (hk : 50≤k):zqk.f k b e 2147483579=some (pwm b e.toNat):=by
 have:=l2Power_eq b e.toNat h0 h1 (by omega) k hk
 rwa [Int.toNat_of_nonneg he0] at this
theorem implVerify_ev (p:Int) (d:List Int) (r s:Int) (hd:isBytes d):Ev (fun k=>qqk.f k p d r s) (verL p d r s):=by
 refine⟨60,fun k hk=>?_⟩
 obtain⟨k,rfl⟩ : ∃ m,k=m + 1:=⟨k - 1,by omega⟩
 show qqk.f (k + 1) p d r s=_
 have jt:qqk.j0 (k + 1) p d true r s=some false:=by simp only[qqk.j0,if_true]
 unfold qqk.f
 by_cases c1:(d.length:Int) > 20000
 ·rw[if_pos c1,jt,verL_bad (fun h=>by have:=h.2.1;omega)]
 rw[if_neg c1]
 by_cases c2:p < 2
 ·rw[if_pos c2,jt,verL_bad (fun h=>by have:=h.1.1;omega)]
 rw[if_neg c2]
 by_cases c3:p ≥ 2147483579
 ·rw[if_pos c3,jt,verL_bad (fun h=>by have:=h.1.2.1;omega)]
 rw[if_neg c3,ypow_at p 1073741789 (by omega) (by omega) (by omega) (by omega) _ (by omega),Option.bind_some,show(1073741789:Int).toNat=1073741789 from rfl]
 by_cases c4:pwm p 1073741789=1
 case neg=>rw[if_neg c4,jt,verL_bad (fun h=>c4 h.1.2.2)]
 rw[if_pos c4]
 by_cases c5:r < 1
 ·rw[if_pos c5,jt,verL_bad (fun h=>by have:=h.2.2.1;omega)]
 rw[if_neg c5]
 by_cases c6:r ≥ 2147483579
 ·rw[if_pos c6,jt,verL_bad (fun h=>by have:=h.2.2.2.1;omega)]
 rw[if_neg c6]
 by_cases c7:s < 0
 ·rw[if_pos c7,jt,verL_bad (fun h=>by have:=h.2.2.2.2.1;omega)]
 rw[if_neg c7]
 by_cases c8:s ≥ 1073741789
 ·rw[decide_eq_true c8,jt,verL_bad (fun h=>by have:=h.2.2.2.2.2;omega)]
 rw[decide_eq_false c8]
 have ch:=chalL_range r d
 have hv:verOk p d r s:=⟨⟨by omega,by omega,c4⟩,by omega,by omega,by omega,by omega,by omega⟩
 simp only[qqk.j0,Bool.false_eq_true,if_false]
 rw[ypow_at 4 s (by omega) (by omega) (by omega) (by omega) _ (by omega),Option.bind_some,implChal_eq r d hd (by omega),Option.bind_some,ypow_at p _ (by omega) (by omega) ch.1 (by omega) _ (by omega),Option.bind_some,mulM (by omega) (by omega) (pwm_range _ _).1 (pwm_range _ _).2,verL,if_pos hv]
theorem specPublic_eq (p:Int) (k:Nat) (hk : 50≤k):zqv.f k p=some (decide (pubOk p)):=by
 unfold zqv.f
 by_cases c2:p ≥ 2
 case neg=>rw[if_neg c2,decide_eq_false (fun h=>by have:=h.1;omega)]
 rw[if_pos c2]
 by_cases c3:p < 2147483579
 case neg=>rw[if_neg c3,decide_eq_false (fun h=>by have:=h.2.1;omega)]
 rw[if_pos c3,l2Power_at p 1073741789 (by omega) (by omega) (by omega) (by omega) k hk,Option.bind_some,show(1073741789:Int).toNat=1073741789 from rfl]
 by_cases c4:pwm p 1073741789=1
 ·rw[decide_eq_true (show pubOk p from⟨by omega,c3,c4⟩),c4];rfl
 ·rw[decide_eq_false (fun h=>c4 h.2.2)]
  simp only[Option.some.injEq,beq_eq_false_iff_ne,ne_eq]
  exact c4
theorem specVerify_ev (p:Int) (d:List Int) (r s:Int) (hd:isBytes d):Ev (fun k=>qkw.f k p d r s) (verL p d r s):=by
 by_cases hv:verOk p d r s
 ·obtain⟨hp,hl,h1,h2,h3,h4⟩:=hv
  obtain⟨m,hm⟩:=specChal_ev r d (by omega) (by omega) hd hl
  refine⟨m + 60,fun k hk=>?_⟩
  obtain⟨k,rfl⟩ : ∃ m,k=m + 1:=⟨k - 1,by omega⟩
  show qkw.f (k + 1) p d r s=_
  have ch:=chalL_range r d
  have h0:=hm k (by omega)
  simp only at h0
  unfold qkw.f
  rw[specPublic_eq p _ (by omega),decide_eq_true hp,Option.bind_some,if_pos rfl,if_neg (by omega),if_neg (by omega),if_neg (by omega),if_neg (by omega),decide_eq_false (by omega)]
  simp only[qkw.j0,Bool.false_eq_true,if_false]
  rw[l2Power_at 4 s (by omega) (by omega) (by omega) (by omega) _ (by omega),Option.bind_some,h0,Option.bind_some,l2Power_at p _ (by have:=hp.1;omega) hp.2.1 ch.1 (by omega) _ (by omega),Option.bind_some,mulM (by omega) (by omega) (pwm_range _ _).1 (pwm_range _ _).2,verL,if_pos ⟨hp,hl,h1,h2,h3,h4⟩]
 ·rw[verL_bad hv]
  refine⟨60,fun k hk=>?_⟩
  obtain⟨k,rfl⟩ : ∃ m,k=m + 1:=⟨k - 1,by omega⟩
  show qkw.f (k + 1) p d r s=_
  have jt:qkw.j0 (k + 1) p d true r s=some false:=by simp only[qkw.j0,if_true]
  unfold qkw.f
  rw[specPublic_eq p _ (by omega),Option.bind_some]
  by_cases hp:pubOk p
  case neg=>rw[decide_eq_false hp,if_neg (by simp),jt]
  rw[decide_eq_true hp,if_pos rfl]
  by_cases c1:(d.length:Int) > 20000
  ·rw[if_pos c1,jt]
  rw[if_neg c1]
  by_cases c5:r < 1
  ·rw[if_pos c5,jt]
  rw[if_neg c5]
  by_cases c6:r ≥ 2147483579
  ·rw[if_pos c6,jt]
  rw[if_neg c6]
  by_cases c7:s < 0
  ·rw[if_pos c7,jt]
  rw[if_neg c7]
  by_cases c8:s ≥ 1073741789
  ·rw[decide_eq_true c8,jt]
  exact absurd ⟨hp,by omega,by omega,by omega,by omega,by omega⟩ hv
theorem pwm_def (b:Int) (e:Nat):pwm b e=b ^ e % 2147483579:=by unfold pwm;rfl
theorem pwm_add (b:Int) (m n:Nat):pwm b (m + n)=pwm b m * pwm b n % 2147483579:=by
 rw[pwm_def,pwm_def,pwm_def,Int.pow_add,Int.mul_emod]
theorem pow_mul' (b:Int) (m n:Nat):b ^ (m * n)=(b ^ m) ^ n:=by
 induction n with
 | zero=>simp
 | succ n ih=>rw[Nat.mul_succ,Int.pow_add,ih,Int.pow_succ]
theorem pwm_mul (b:Int) (m n:Nat):pwm b (m * n)=pwm (pwm b m) n:=by
 rw[pwm_def,pwm_def,pwm_def,pow_mul',pow_emod']
theorem pwm_one_left (n:Nat):pwm 1 n=1:=by
 rw[pwm_def,Int.one_pow];rfl
theorem pwm_zero (b:Int):pwm b 0=1:=by rw[pwm_def,Int.pow_zero];rfl
theorem pwm_one (b:Int) (h0 : 0≤b) (h1:b < 2147483579):pwm b 1=b:=by
 rw[pwm_def,Int.pow_succ,Int.pow_zero,Int.one_mul,Int.emod_eq_of_lt h0 h1]
theorem fermat4:pwm 4 1073741789=1:=by
 have h1:=ypow_eq 4 1073741789 (by omega) (by omega) (by omega) 60 (by omega)
 have h2:qzv.f 60 4 ((1073741789:Nat):Int) 2147483579=some 1:=by decide +kernel
 rw[h2] at h1
 exact(Option.some.inj h1).symm
def chk (n:Nat):Nat→Nat→Bool
 | 0,lo=>n % lo != 0
 | d + 1,lo=>chk n d lo && chk n d (lo + 2 ^ d)
theorem chk_all (n:Nat):∀ (d lo:Nat),chk n d lo=true→∀ i,lo≤i→i < lo + 2 ^ d→n % i≠0
 | 0,lo,h,i,h1,h2=>by
  obtain rfl:i=lo:=by simp at h2;omega
  simpa [chk] using h
 | d + 1,lo,h,i,h1,h2=>by
  simp only[chk,Bool.and_eq_true] at h
  rw[Nat.pow_succ] at h2
  by_cases hi:i < lo + 2 ^ d
  ·exact chk_all n d lo h.1 i h1 hi
  ·exact chk_all n d (lo + 2 ^ d) h.2 i (by omega) (by omega)
theorem noDiv (i:Nat) (h1 : 2≤i) (h2:i < 32770) : 1073741789 % i≠0 :=
 chk_all 1073741789 15 2 (by decide +kernel) i h1 (by simpa using h2)
theorem gcdQ (x:Nat) (h0 : 0 < x) (h1:x < 1073741789):Nat.gcd x 1073741789=1:=by
 have hd:=Nat.gcd_dvd_right x 1073741789
 have hx:=Nat.gcd_dvd_left x 1073741789
 have hp : 0 < Nat.gcd x 1073741789:=Nat.gcd_pos_of_pos_left _ h0
 have hle:Nat.gcd x 1073741789≤x:=Nat.le_of_dvd h0 hx
 generalize Nat.gcd x 1073741789=g at hd hp hle
 obtain⟨q,hq⟩:=hd
 by_cases hg:g=1
 ·exact hg
 by_cases hs:g < 32770
 ·exact absurd (by rw[hq];exact Nat.mul_mod_right g q) (noDiv g (by omega) hs)
 ·have hq1:q < 32770:=by
   apply Decidable.byContradiction
   intro hc
   have : 32770 * 32770≤g * q:=Nat.mul_le_mul (by omega) (by omega)
   omega
  have hq2 : 2≤q:=by
   apply Decidable.byContradiction
   intro hc
   have h3:q=0∨q=1:=by omega
   rcases h3 with rfl|rfl
   ·omega
   ·omega
  exact absurd (by rw[hq];exact Nat.mul_mod_left g q) (noDiv q hq2 hq1)
theorem pwm_round (j r:Nat):pwm 4 (1073741789 * j + r)=pwm 4 r:=by
 have h:=pwm_range 4 r
 rw[pwm_add,pwm_mul,fermat4,pwm_one_left,Int.one_mul,Int.emod_eq_of_lt h.1 h.2]
theorem pwm_modQ (e:Nat):pwm 4 e=pwm 4 (e % 1073741789):=by
 conv=>lhs;rw[← Nat.div_add_mod e 1073741789]
 exact pwm_round _ _
theorem pwm_ne_zero (x:Nat) (h1:x < 1073741789):pwm 4 x≠0:=by
 intro h
 have:=pwm_add 4 x (1073741789 - x)
 rw[show x + (1073741789 - x)=1073741789 by omega,fermat4,h] at this
 simp at this
theorem pwm_gcd (a:Nat):∀ b,pwm 4 a=1→pwm 4 b=1→pwm 4 (Nat.gcd a b)=1:=by
 induction a using Nat.strongRecOn with
 | _ a ih =>
  intro b ha hb
  by_cases hz:a=0
  ·subst hz
   rwa [Nat.gcd_zero_left]
  ·rw[Nat.gcd_rec]
   refine ih (b % a) (Nat.mod_lt _ (by omega)) a ?_ ha
   have hr:=pwm_range 4 (b % a)
   rw[← Nat.div_add_mod b a,pwm_add,pwm_mul,ha,pwm_one_left,Int.one_mul,Int.emod_eq_of_lt hr.1 hr.2] at hb
   exact hb
theorem pwm_ne_one (x:Nat) (h0 : 0 < x) (h1:x < 1073741789):pwm 4 x≠1:=by
 intro h
 have e1:=pwm_gcd x 1073741789 h fermat4
 rw[gcdQ x h0 h1,pwm_one 4 (by omega) (by omega)] at e1
 omega
theorem pub_ok (x:Nat) (h0 : 0 < x) (h1:x < 1073741789):pubOk (pwm 4 x):=by
 have hr:=pwm_range 4 x
 have n0:=pwm_ne_zero x h1
 have n1:=pwm_ne_one x h0 h1
 refine⟨by omega,hr.2,?_⟩
 have:=pwm_round x 0
 rw[Nat.add_zero,Nat.mul_comm,pwm_mul,pwm_zero] at this
 exact this
theorem verified (x n:Nat) (d:List Int) (h0 : 0 < x) (h1:x < 1073741789) (hn:n < 1073741789) (hl:d.length≤20000) :
  verL (pwm 4 x) d (pwm 4 n) (((n:Int) + chalL (pwm 4 n) d * x) % 1073741789)=true:=by
 have hr:=pwm_range 4 n
 have n0:=pwm_ne_zero n hn
 have ch:=chalL_range (pwm 4 n) d
 obtain⟨e,he⟩ : ∃ e:Nat,chalL (pwm 4 n) d=e:=⟨(chalL (pwm 4 n) d).toNat,by omega⟩
 have hv:verOk (pwm 4 x) d (pwm 4 n) (((n:Int) + chalL (pwm 4 n) d * x) % 1073741789):=⟨pub_ok x h0 h1,hl,by omega,hr.2,Int.emod_nonneg _ (by omega),Int.emod_lt_of_pos _ (by omega)⟩
 unfold verL
 rw[if_pos hv,he,show(((n:Int) + (e:Int) * (x:Int)) % 1073741789).toNat=(n + e * x) % 1073741789 by rw[← Int.natCast_mul,← Int.natCast_add];omega,← pwm_modQ,pwm_add,Int.toNat_natCast,Nat.mul_comm,pwm_mul]
 exact beq_self_eq_true _
theorem Ev.up1 {α:Type} {g:Nat→Option α} {r : α} (h:Ev (fun k=>g (k + 1)) r):Ev g r:=by
 obtain⟨n,hn⟩:=h
 refine⟨n + 1,fun k hk=>?_⟩
 obtain⟨k,rfl⟩ : ∃ m,k=m + 1:=⟨k - 1,by omega⟩
 exact hn k (by omega)
theorem two_ev (a b:List Int) (ha:isBytes a) (hb:isBytes b) (la:a.length≤100000000) (lb:b.length≤100000000):Ev (fun k=>zzq.f k a b) (dg (a ++ b)):=by
 have hab:=specDigest_ev (a ++ b) (isBytes_append ha hb) (by rw[List.length_append];omega)
 simp only[zzq.f,List.length_nil,if_pos (show 0 + a.length < 140737488355328 by omega),List.nil_append,Option.bind_some,if_pos (show a.length + b.length < 140737488355328 by omega)]
 exact Ev.bind hab (Ev.now _)
theorem smac_ev (a b:List Int) (ha:isBytes a) (hb:isBytes b) (la:a.length≤100000000) (lb:b.length≤100000000):Ev (fun k=>zqq.f k a b) (macL a b):=by
 simp only[zqq.f]
 refine Ev.bind (specDigest_ev a ha (by omega)) ?_
 refine Ev.bind (specDigest_ev b hb (by omega)) ?_
 exact Ev.bind (two_ev _ _ (dg_bytes a) (dg_bytes b) (by rw[dg_len];omega) (by rw[dg_len];omega)) (Ev.now _)
theorem imac_ev (a b:List Int) (ha:isBytes a) (hb:isBytes b) (la:a.length≤20000) (lb:b.length≤20000):Ev (fun k=>xx.f k a b) (macL a b):=by
 refine Ev.up1 ?_
 simp only[xx.f,if_neg (show ¬ ((a.length:Int) > 20000) by omega),decide_eq_false (show ¬ ((b.length:Int) > 20000) by omega),xx.j0,Bool.false_eq_true,if_false,implDigest_eq a ha la,implDigest_eq b hb lb,Option.bind_some,if_pos (show(dg a).length + (dg b).length < 140737488355328 by rw[dg_len,dg_len];omega),implDigest_eq _ (isBytes_append (dg_bytes a) (dg_bytes b)) (show(dg a ++ dg b).length≤20000 by rw[List.length_append,dg_len,dg_len];omega)]
 exact Ev.now _
theorem macL_bytes (a b:List Int):isBytes (macL a b):=dg_bytes _
theorem macL_len (a b:List Int):(macL a b).length=16:=dg_len _
def signN (x:Int) (d:List Int):Int:=1 + numL (macL (yb x) d) % 1073741788
theorem signN_range (x:Int) (d:List Int) : 1≤signN x d∧signN x d < 1073741789:=by
 have h0:=Int.emod_nonneg (numL (macL (yb x) d)) (show(1073741788:Int)≠0 by omega)
 have h1:=Int.emod_lt_of_pos (numL (macL (yb x) d)) (show(0:Int) < 1073741788 by omega)
 unfold signN
 omega
def signL (x:Int) (d:List Int):Int × Int:=(pwm 4 (signN x d).toNat,(signN x d + chalL (pwm 4 (signN x d).toNat) d * x) % 1073741789)
theorem chal_mul {e x:Int} (h0 : 0≤e) (h1:e < 1073741789) (h2 : 0≤x) (h3:x < 1073741789) : 0≤e * x∧e * x≤1152921504606846976:=by
 refine⟨Int.mul_nonneg h0 h2,?_⟩
 have:=Int.mul_le_mul (show e≤1073741788 by omega) (show x≤1073741788 by omega) h2 (by omega)
 omega
theorem num_part (x:Int) (d:List Int):wrap64 (1 + Int.tmod (numL (macL (yb x) d)) 1073741788)=signN x d:=by
 have h3:=numL_range (macL (yb x) d) (macL_bytes _ _) (by rw[macL_len];omega)
 have hs:=signN_range x d
 have e : 1 + Int.tmod (numL (macL (yb x) d)) 1073741788=signN x d:=by rw[Int.tmod_eq_emod_of_nonneg h3.1];rfl
 rw[e,w64 (by omega) (by omega)]
theorem sig_part {x n e:Int} (hx0 : 0≤x) (hx1:x < 1073741789) (hn0 : 1≤n) (hn1:n < 1073741789) (h0 : 0≤e) (h1:e < 1073741789):Int.tmod (wrap64 (n + wrap64 (e * x))) 1073741789=(n + e * x) % 1073741789:=by
 have h:=chal_mul h0 h1 hx0 hx1
 rw[w64 (n:=e * x) (by omega) (by omega),w64 (by omega) (by omega),Int.tmod_eq_emod_of_nonneg (by omega)]
theorem specSign_ev (x:Int) (d:List Int) (hx0 : 1≤x) (hx1:x < 1073741789) (hd:isBytes d) (hl:d.length≤20000):Ev (fun k=>zqx.f k x d) (signL x d):=by
 have hs:=signN_range x d
 have hr:=pwm_range 4 (signN x d).toNat
 have hc:=chalL_range (pwm 4 (signN x d).toNat) d
 simp only[zqx.f]
 refine Ev.bind ⟨5,fun k hk=>specBytes_eq x (by omega) (by omega) k hk⟩ ?_
 refine Ev.bind (smac_ev _ d (yb_bytes x) hd (by rw[yb_len];omega) (by omega)) ?_
 refine Ev.bind ⟨5,fun k hk=>specNum_eq _ (macL_bytes _ _) (by rw[macL_len];omega) k hk⟩ ?_
 simp only[num_part]
 refine Ev.bind ⟨50,fun k hk=>l2Power_at 4 (signN x d) (by omega) (by omega) (by omega) (by omega) k hk⟩ ?_
 refine Ev.bind (specChal_ev _ d hr.1 (by omega) hd hl) ?_
 simp only[sig_part (show 0≤x by omega) hx1 hs.1 hs.2 hc.1 hc.2]
 exact Ev.now _
theorem implSign_ev (x:Int) (d:List Int) (hd:isBytes d) (hl:d.length≤20000):Ev (fun k=>qqz.f k x d) (if 1≤x∧x < 1073741789 then signL x d else(0,0)):=by
 refine Ev.up1 ?_
 by_cases hx : 1≤x∧x < 1073741789
 ·have hx0:=hx.1
  have hx1:=hx.2
  have hs:=signN_range x d
  have hr:=pwm_range 4 (signN x d).toNat
  have hc:=chalL_range (pwm 4 (signN x d).toNat) d
  have y1:qqw.f x=some (yb x):=rfl
  have n1:=implNum_eq (macL (yb x) d) (macL_bytes _ _) (by rw[macL_len];omega)
  have c1:=implChal_eq (pwm 4 (signN x d).toNat) d hd hl
  simp only[if_pos hx,qqz.f,qjq.f,if_pos (show x ≥ 1 by omega),decide_eq_true hx1,Option.bind_some,if_true,decide_eq_false (show ¬ ((d.length:Int) > 20000) by omega),qqz.j0,Bool.false_eq_true,if_false,y1]
  refine Ev.bind (imac_ev _ d (yb_bytes x) hd (by rw[yb_len];omega) hl) ?_
  simp only[n1,Option.bind_some,num_part]
  refine Ev.bind ⟨50,fun k hk=>ypow_at 4 (signN x d) (by omega) (by omega) (by omega) (by omega) k hk⟩ ?_
  simp only[c1,Option.bind_some,sig_part (show 0≤x by omega) hx1 hs.1 hs.2 hc.1 hc.2]
  exact Ev.now _
 ·simp only[if_neg hx,qqz.f,qjq.f]
  by_cases h1:x ≥ 1
  ·simp only[if_pos h1,Option.bind_some,decide_eq_false (show ¬ x < 1073741789 by omega),Bool.false_eq_true,if_false,qqz.j0,if_true]
   exact Ev.now _
  ·simp only[if_neg h1,Option.bind_some,Bool.false_eq_true,if_false,qqz.j0,if_true]
   exact Ev.now _
theorem sign_verified (x:Int) (d:List Int) (hx0 : 1≤x) (hx1:x < 1073741789) (hl:d.length≤20000):verL (pwm 4 x.toNat) d (signL x d).1 (signL x d).2=true:=by
 have hs:=signN_range x d
 have:=verified x.toNat (signN x d).toNat d (by omega) (by omega) (by omega) hl
 rw[Int.toNat_of_nonneg (show 0≤x by omega),Int.toNat_of_nonneg (show 0≤signN x d by omega)] at this
 exact this
theorem specPublicOf_eq (x:Int) (hx0 : 1≤x) (hx1:x < 1073741789) (k:Nat) (hk : 50≤k):qkj.f k x=some (pwm 4 x.toNat):=by
 unfold qkj.f zqw.f
 rw[if_pos (show x ≥ 1 by omega),decide_eq_true hx1,Option.bind_some,if_pos rfl,l2Power_at 4 x (by omega) (by omega) (by omega) (by omega) k hk]
 rfl
end Go.Proofs.Ytipdkendfcopiaa.Pr
