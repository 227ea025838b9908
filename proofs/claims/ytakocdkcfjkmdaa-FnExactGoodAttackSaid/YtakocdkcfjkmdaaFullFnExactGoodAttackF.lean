/- Printed texts, walks and plain facts that the law FnExactGoodAttack leans on, joined. -/
import Derived.Test.YtakocdkcfjkmdaaFullFnExactGoodAttackE
import Derived.Laws.Strings
set_option maxHeartbeats 8000000
set_option maxRecDepth 100000
open List renaming map_toArray → jq0, map_cons → jq1, map_nil → jq2, length_drop → jq3, length_take → jq4, setIfInBounds_toArray → jq5, set_cons_zero → jq6, set_cons_succ → jq7
open Option renaming bind_eq_some_iff → jq8
open Bool renaming eq_false_iff → jq9, true → Z, false → Y
namespace Go.Proofs.Ytakocdkcfjkmdaa.Pr
open Go.RowKit Go.Proofs.YtakocdkcfjkmdaaW.PrintWords Go.Proofs.YtakocdkcfjkmdaaW.PrintLast Go.Proofs.YtakocdkcfjkmdaaW.PrintMore
attribute [local go_sem] max2_int min2_int max_two min_two max_three min_three max_four min_four
set_option linter.unusedVariables false
set_option linter.unusedSimpArgs false
def qjj.f (k:Nat) (l0_0:List (S96)) (l0_1:List Int) (a0_2:Int) (a0_3:Int) (a1:Int):Option (Int):=(qjq.f k l0_0 a1).bind fun t102=>(if t102 < 0 then(some (-1)) else((qzw.f l0_1 t102).bind fun t103=>(if t103 < 0 then(some (-1)) else(some t103))))
theorem qjj.calls (k:Nat) (A0_0:Option Addr) (c0_0:Nat) (l0_0:List (S96)) (A0_1:Option Addr) (c0_1:Nat) (l0_1:List Int) (a0_2:Int) (a0_3:Int) (a1:Int) (r:Int) (w:World) (hr0_0:Kd.C k96 w A0_0 l0_0.length l0_0) (hc0_0:l0_0.length≤c0_0) (hr0_1:Kd.C (Kd.int .u8) w A0_1 l0_1.length l0_1) (hc0_1:l0_1.length≤c0_1) (h:qjj.f k l0_0 l0_1 a0_2 a0_3 a1=some r) :
  Calls Try.prog 18 #[.agg #[.slice A0_0 l0_0.length c0_0,.slice A0_1 l0_1.length c0_1,.int .i64 a0_2,.int .i64 a0_3],.int .i64 a1] w fun e w'=>e=.returned (.int .i64 r)∧Below w.heap.size w w':=by
 have hu40:=Try.underlying40
 have HR0_0:=X.mk hr0_0
 have HC0_0:=X.mk hc0_0
 clear hr0_0 hc0_0
 have HR0_1:=X.mk hr0_1
 have HC0_1:=X.mk hc0_1
 clear hr0_1 hc0_1
 have HB:=X.mk (Below.refl w.heap.size w)
 unfold qjj.f at h
 have H:=h
 clear h
 replace H:=jq8.mp H
 obtain⟨t102,A30,H⟩:=H
 try dsimp only at H
 have A3:=X.mk A30
 clear A30
 by_cases c4:t102 < 0
 ·rw[if_pos c4] at H
  have c4b0:decide (t102 < 0)=true:=decide_eq_true c4
  clear c4
  obtain rfl:=Option.some.inj H
  go_enter Try.func18,Try.ntmps18
  go_wp2_with (first|((with_reducible refine gate_dst (N:=2) rfl ?_);refine box_event ?hg (N:=2) ?hd (cs:=#[.slice A0_0 l0_0.length c0_0,.slice A0_1 l0_1.length c0_1,.int .i64 a0_2,.int .i64 a0_3]) (t:=40) ?hr ?_;(case hd=>rfl);(case hg=>rfl);(case hr=>first|(go_simp;done)|(go_simp;rfl));intro gb101 hg w5 hbox hb;have BK101:=X.mk (hbox);have GW101:=X.mk ((by rw[hg];exact(qx (by solve_by_elim only[HB.out,O,U,L])):w.heap.size≤gb101));have GE101:=X.mk ((by rw[hg];exact(qx (by solve_by_elim only[HB.out,O,U,L])):w.heap.size≤gb101));replace HB:=X.mk (qw (by solve_by_elim only[HB.out,O,U,L]) hb);clear hb hbox hg;have hcz6_0:w5.cell? ⟨gb101,0,none⟩ = some (.slice A0_0 l0_0.length c0_0):=(I BK101.out 0).trans rfl;have hcz6_1:w5.cell? ⟨gb101,1,none⟩ = some (.slice A0_1 l0_1.length c0_1):=(I BK101.out 1).trans rfl;have hcz6_2:w5.cell? ⟨gb101,2,none⟩ = some (.int .i64 a0_2):=(I BK101.out 2).trans rfl;have hcz6_3:w5.cell? ⟨gb101,3,none⟩ = some (.int .i64 a0_3):=(I BK101.out 3).trans rfl;have hfz6_0:=J BK101.out 0;have hfz6_1:=J BK101.out 1;have hfz6_2:=J BK101.out 2;have hfz6_3:=J BK101.out 3)|((with_reducible refine zw (f:=43) rfl ?_);refine goesL_ (some 8) rfl rfl Try.func43 (by kernel_rfl) rfl #[.slice A0_0 l0_0.length c0_0,.int .i64 a1] rfl (by(try simp only[jq0,jq1,jq2]);first|done|rfl|(simp only[jq3,jq4];rfl)) ?_;(with_reducible refine(qjq.calls k _ _ l0_0 a1 t102 _ ?side1 ?side2 A3.out).mono ?_);(case side1=>solve_by_elim only[(Kd.C_below HR0_0.out HB.out),Kd.C_alloc,Kd.C_drewN,Kd.C_drew]);(case side2=>exact HC0_0.out);rintro e w7 ⟨rfl,hb⟩;refine⟨_,rfl,?_⟩;replace BK101:=X.mk (kj (g:=gb101) (o:=.cells #[.slice A0_0 l0_0.length c0_0,.slice A0_1 l0_1.length c0_1,.int .i64 a0_2,.int .i64 a0_3] 40 (0,0)) (by solve_by_elim only[BK101.out,qj,qk,qz]) hb);replace HB:=X.mk (qw (by solve_by_elim (maxDepth:=20) only[HB.out,O,U,L,qq,GE101.out]) hb);(try clear hb)))
  go_ret
  exact⟨by first|rfl|(simp[*,zv,zk] <;> rfl),by repeat(first|(with_reducible first|exact HB.out|apply O|apply U|apply L|refine qq ?_ GE101.out)|exact HB.out)⟩
 ·rw[if_neg c4] at H
  have c4b0:decide (t102 < 0)=false:=decide_eq_false c4
  clear c4
  replace H:=jq8.mp H
  obtain⟨t103,A80,H⟩:=H
  try dsimp only at H
  have A8:=X.mk A80
  clear A80
  by_cases c9:t103 < 0
  ·rw[if_pos c9] at H
   have c9b0:decide (t103 < 0)=true:=decide_eq_true c9
   clear c9
   obtain rfl:=Option.some.inj H
   go_enter Try.func18,Try.ntmps18
   go_wp2_with (first|((with_reducible refine gate_dst (N:=2) rfl ?_);refine box_event ?hg (N:=2) ?hd (cs:=#[.slice A0_0 l0_0.length c0_0,.slice A0_1 l0_1.length c0_1,.int .i64 a0_2,.int .i64 a0_3]) (t:=40) ?hr ?_;(case hd=>rfl);(case hg=>rfl);(case hr=>first|(go_simp;done)|(go_simp;rfl));intro gb101 hg w10 hbox hb;have BK101:=X.mk (hbox);have GW101:=X.mk ((by rw[hg];exact(qx (by solve_by_elim only[HB.out,O,U,L])):w.heap.size≤gb101));have GE101:=X.mk ((by rw[hg];exact(qx (by solve_by_elim only[HB.out,O,U,L])):w.heap.size≤gb101));replace HB:=X.mk (qw (by solve_by_elim only[HB.out,O,U,L]) hb);clear hb hbox hg;have hcz11_0:w10.cell? ⟨gb101,0,none⟩ = some (.slice A0_0 l0_0.length c0_0):=(I BK101.out 0).trans rfl;have hcz11_1:w10.cell? ⟨gb101,1,none⟩ = some (.slice A0_1 l0_1.length c0_1):=(I BK101.out 1).trans rfl;have hcz11_2:w10.cell? ⟨gb101,2,none⟩ = some (.int .i64 a0_2):=(I BK101.out 2).trans rfl;have hcz11_3:w10.cell? ⟨gb101,3,none⟩ = some (.int .i64 a0_3):=(I BK101.out 3).trans rfl;have hfz11_0:=J BK101.out 0;have hfz11_1:=J BK101.out 1;have hfz11_2:=J BK101.out 2;have hfz11_3:=J BK101.out 3)|((with_reducible refine zw (f:=43) rfl ?_);refine goesL_ (some 8) rfl rfl Try.func43 (by kernel_rfl) rfl #[.slice A0_0 l0_0.length c0_0,.int .i64 a1] rfl (by(try simp only[jq0,jq1,jq2]);first|done|rfl|(simp only[jq3,jq4];rfl)) ?_;(with_reducible refine(qjq.calls k _ _ l0_0 a1 t102 _ ?side1 ?side2 A3.out).mono ?_);(case side1=>solve_by_elim only[(Kd.C_below HR0_0.out HB.out),Kd.C_alloc,Kd.C_drewN,Kd.C_drew]);(case side2=>exact HC0_0.out);rintro e w12 ⟨rfl,hb⟩;refine⟨_,rfl,?_⟩;replace BK101:=X.mk (kj (g:=gb101) (o:=.cells #[.slice A0_0 l0_0.length c0_0,.slice A0_1 l0_1.length c0_1,.int .i64 a0_2,.int .i64 a0_3] 40 (0,0)) (by solve_by_elim only[BK101.out,qj,qk,qz]) hb);replace HB:=X.mk (qw (by solve_by_elim (maxDepth:=20) only[HB.out,O,U,L,qq,GE101.out]) hb);(try clear hb);have hcz13_0:w12.cell? ⟨gb101,0,none⟩ = some (.slice A0_0 l0_0.length c0_0):=(I BK101.out 0).trans rfl;have hcz13_1:w12.cell? ⟨gb101,1,none⟩ = some (.slice A0_1 l0_1.length c0_1):=(I BK101.out 1).trans rfl;have hcz13_2:w12.cell? ⟨gb101,2,none⟩ = some (.int .i64 a0_2):=(I BK101.out 2).trans rfl;have hcz13_3:w12.cell? ⟨gb101,3,none⟩ = some (.int .i64 a0_3):=(I BK101.out 3).trans rfl;have hfz13_0:=J BK101.out 0;have hfz13_1:=J BK101.out 1;have hfz13_2:=J BK101.out 2;have hfz13_3:=J BK101.out 3)|((with_reducible refine zw (f:=34) rfl ?_);refine goesL_ (some 14) rfl rfl Try.func34 (by kernel_rfl) rfl #[.slice A0_1 l0_1.length c0_1,.int .i64 t102] rfl (by(try simp only[jq0,jq1,jq2]);first|done|rfl|(simp only[jq3,jq4];rfl)) ?_;(with_reducible refine(qzw.calls _ _ l0_1 t102 t103 _ ?side1 ?side2 A8.out).mono ?_);(case side1=>solve_by_elim only[(Kd.C_below HR0_1.out HB.out),Kd.C_alloc,Kd.C_drewN,Kd.C_drew]);(case side2=>exact HC0_1.out);rintro e w' ⟨rfl,⟨nd,rfl⟩⟩;refine⟨_,rfl,?_⟩))
   go_ret
   exact⟨by first|rfl|(simp[*,zv,zk] <;> rfl),by repeat(first|(with_reducible first|exact HB.out|apply O|apply U|apply L|refine qq ?_ GE101.out)|exact HB.out)⟩
  ·rw[if_neg c9] at H
   have c9b0:decide (t103 < 0)=false:=decide_eq_false c9
   clear c9
   obtain rfl:=Option.some.inj H
   go_enter Try.func18,Try.ntmps18
   go_wp2_with (first|((with_reducible refine gate_dst (N:=2) rfl ?_);refine box_event ?hg (N:=2) ?hd (cs:=#[.slice A0_0 l0_0.length c0_0,.slice A0_1 l0_1.length c0_1,.int .i64 a0_2,.int .i64 a0_3]) (t:=40) ?hr ?_;(case hd=>rfl);(case hg=>rfl);(case hr=>first|(go_simp;done)|(go_simp;rfl));intro gb101 hg w14 hbox hb;have BK101:=X.mk (hbox);have GW101:=X.mk ((by rw[hg];exact(qx (by solve_by_elim only[HB.out,O,U,L])):w.heap.size≤gb101));have GE101:=X.mk ((by rw[hg];exact(qx (by solve_by_elim only[HB.out,O,U,L])):w.heap.size≤gb101));replace HB:=X.mk (qw (by solve_by_elim only[HB.out,O,U,L]) hb);clear hb hbox hg;have hcz15_0:w14.cell? ⟨gb101,0,none⟩ = some (.slice A0_0 l0_0.length c0_0):=(I BK101.out 0).trans rfl;have hcz15_1:w14.cell? ⟨gb101,1,none⟩ = some (.slice A0_1 l0_1.length c0_1):=(I BK101.out 1).trans rfl;have hcz15_2:w14.cell? ⟨gb101,2,none⟩ = some (.int .i64 a0_2):=(I BK101.out 2).trans rfl;have hcz15_3:w14.cell? ⟨gb101,3,none⟩ = some (.int .i64 a0_3):=(I BK101.out 3).trans rfl;have hfz15_0:=J BK101.out 0;have hfz15_1:=J BK101.out 1;have hfz15_2:=J BK101.out 2;have hfz15_3:=J BK101.out 3)|((with_reducible refine zw (f:=43) rfl ?_);refine goesL_ (some 8) rfl rfl Try.func43 (by kernel_rfl) rfl #[.slice A0_0 l0_0.length c0_0,.int .i64 a1] rfl (by(try simp only[jq0,jq1,jq2]);first|done|rfl|(simp only[jq3,jq4];rfl)) ?_;(with_reducible refine(qjq.calls k _ _ l0_0 a1 t102 _ ?side1 ?side2 A3.out).mono ?_);(case side1=>solve_by_elim only[(Kd.C_below HR0_0.out HB.out),Kd.C_alloc,Kd.C_drewN,Kd.C_drew]);(case side2=>exact HC0_0.out);rintro e w16 ⟨rfl,hb⟩;refine⟨_,rfl,?_⟩;replace BK101:=X.mk (kj (g:=gb101) (o:=.cells #[.slice A0_0 l0_0.length c0_0,.slice A0_1 l0_1.length c0_1,.int .i64 a0_2,.int .i64 a0_3] 40 (0,0)) (by solve_by_elim only[BK101.out,qj,qk,qz]) hb);replace HB:=X.mk (qw (by solve_by_elim (maxDepth:=20) only[HB.out,O,U,L,qq,GE101.out]) hb);(try clear hb);have hcz17_0:w16.cell? ⟨gb101,0,none⟩ = some (.slice A0_0 l0_0.length c0_0):=(I BK101.out 0).trans rfl;have hcz17_1:w16.cell? ⟨gb101,1,none⟩ = some (.slice A0_1 l0_1.length c0_1):=(I BK101.out 1).trans rfl;have hcz17_2:w16.cell? ⟨gb101,2,none⟩ = some (.int .i64 a0_2):=(I BK101.out 2).trans rfl;have hcz17_3:w16.cell? ⟨gb101,3,none⟩ = some (.int .i64 a0_3):=(I BK101.out 3).trans rfl;have hfz17_0:=J BK101.out 0;have hfz17_1:=J BK101.out 1;have hfz17_2:=J BK101.out 2;have hfz17_3:=J BK101.out 3)|((with_reducible refine zw (f:=34) rfl ?_);refine goesL_ (some 14) rfl rfl Try.func34 (by kernel_rfl) rfl #[.slice A0_1 l0_1.length c0_1,.int .i64 t102] rfl (by(try simp only[jq0,jq1,jq2]);first|done|rfl|(simp only[jq3,jq4];rfl)) ?_;(with_reducible refine(qzw.calls _ _ l0_1 t102 t103 _ ?side1 ?side2 A8.out).mono ?_);(case side1=>solve_by_elim only[(Kd.C_below HR0_1.out HB.out),Kd.C_alloc,Kd.C_drewN,Kd.C_drew]);(case side2=>exact HC0_1.out);rintro e w' ⟨rfl,⟨nd,rfl⟩⟩;refine⟨_,rfl,?_⟩))
   go_ret
   exact⟨by first|rfl|(simp[*,zv,zk] <;> rfl),by repeat(first|(with_reducible first|exact HB.out|apply O|apply U|apply L|refine qq ?_ GE101.out)|exact HB.out)⟩
def qkj.f (k:Nat) (l0_0:List (S96)) (l0_1:List Int) (a0_2:Int) (a0_3:Int):Option ((List (S77)) × List Int × Int × Int):=(qkq.f k l0_0).bind fun t104=>((qjw.f k l0_1).bind fun t107=>(some (t104,t107,a0_2,a0_3)))
theorem qkj.calls (k:Nat) (A0_0:Option Addr) (c0_0:Nat) (l0_0:List (S96)) (A0_1:Option Addr) (c0_1:Nat) (l0_1:List Int) (a0_2:Int) (a0_3:Int) (r1:List (S77)) (r2:List Int) (r3:Int) (r4:Int) (w:World) (hr0_0:Kd.C k96 w A0_0 l0_0.length l0_0) (hc0_0:l0_0.length≤c0_0) (hr0_1:Kd.C (Kd.int .u8) w A0_1 l0_1.length l0_1) (hc0_1:l0_1.length≤c0_1) (h:qkj.f k l0_0 l0_1 a0_2 a0_3=some (r1,r2,r3,r4)) :
  Calls Try.prog 20 #[.agg #[.slice A0_0 l0_0.length c0_0,.slice A0_1 l0_1.length c0_1,.int .i64 a0_2,.int .i64 a0_3]] w fun e w'=>∃ v0_ v1_:Value,e=.returned (.agg #[v0_,v1_,.int .i64 r3,.int .i64 r4])∧Kd.S k77 77 w' w.heap.size (fun k_=>some k_≠(v1_:Value).ownBlock) v0_ r1∧Kd.R (Kd.int .u8) 5 w' w.heap.size (fun _=>True) v1_ r2∧Below w.heap.size w w':=by
 have hu40:=Try.underlying40
 have hu45:=Try.underlying45
 have HR0_0:=X.mk hr0_0
 have HC0_0:=X.mk hc0_0
 clear hr0_0 hc0_0
 have HR0_1:=X.mk hr0_1
 have HC0_1:=X.mk hc0_1
 clear hr0_1 hc0_1
 have HB:=X.mk (Below.refl w.heap.size w)
 unfold qkj.f at h
 have H:=h
 clear h
 replace H:=jq8.mp H
 obtain⟨t104,A20,H⟩:=H
 try dsimp only at H
 have A2:=X.mk A20
 clear A20
 replace H:=jq8.mp H
 obtain⟨t107,A30,H⟩:=H
 try dsimp only at H
 have A3:=X.mk A30
 clear A30
 simp only[Option.some.injEq,Prod.mk.injEq] at H
 obtain⟨rfl,rfl,rfl,rfl⟩:=H
 go_enter Try.func20,Try.ntmps20
 go_wp2_with (first|((with_reducible refine gate_dst (N:=1) rfl ?_);refine box_event ?hg (N:=1) ?hd (cs:=#[.slice A0_0 l0_0.length c0_0,.slice A0_1 l0_1.length c0_1,.int .i64 a0_2,.int .i64 a0_3]) (t:=40) ?hr ?_;(case hd=>rfl);(case hg=>rfl);(case hr=>first|(go_simp;done)|(go_simp;rfl));intro gb101 hg w4 hbox hb;have BK101:=X.mk (hbox);have GW101:=X.mk ((by rw[hg];exact(qx (by solve_by_elim only[HB.out,O,U,L])):w.heap.size≤gb101));have GE101:=X.mk ((by rw[hg];exact(qx (by solve_by_elim only[HB.out,O,U,L])):w.heap.size≤gb101));replace HB:=X.mk (qw (by solve_by_elim only[HB.out,O,U,L]) hb);clear hb hbox hg)|((with_reducible refine gate_dst (N:=2) rfl ?_);refine box_event ?hg (N:=2) ?hd (cs:=#[.slice none 0 0,.slice none 0 0,.int .i64 0,.int .i64 0]) (t:=45) ?hr ?_;(case hd=>rfl);(case hg=>rfl);(case hr=>first|(go_simp;done)|(go_simp;rfl));intro gb102 hg w5 hbox hb;have BK102:=X.mk (hbox);have GW102:=X.mk ((by rw[hg];exact(qx (by solve_by_elim (maxDepth:=20) only[HB.out,O,U,L,qq,GE101.out])):w.heap.size≤gb102));have GE102:=X.mk ((by rw[hg];exact(qx (by solve_by_elim (maxDepth:=20) only[HB.out,O,U,L,qq,GE101.out])):w.heap.size≤gb102));replace HB:=X.mk (qw (by solve_by_elim (maxDepth:=20) only[HB.out,O,U,L,qq,GE101.out]) hb);have NB101_102:=X.mk ((by rw[hg];exact Nat.ne_of_lt (blk_lt (g:=gb101) (o:=.cells #[.slice A0_0 l0_0.length c0_0,.slice A0_1 l0_1.length c0_1,.int .i64 a0_2,.int .i64 a0_3] 40 (0,0)) (by solve_by_elim only[BK101.out,qj,qk,qz])):gb101≠gb102));have NB102_101:=X.mk ((by rw[hg];exact Nat.ne_of_gt (blk_lt (g:=gb101) (o:=.cells #[.slice A0_0 l0_0.length c0_0,.slice A0_1 l0_1.length c0_1,.int .i64 a0_2,.int .i64 a0_3] 40 (0,0)) (by solve_by_elim only[BK101.out,qj,qk,qz])):gb102≠gb101));replace BK101:=X.mk (kj (g:=gb101) (o:=.cells #[.slice A0_0 l0_0.length c0_0,.slice A0_1 l0_1.length c0_1,.int .i64 a0_2,.int .i64 a0_3] 40 (0,0)) (by solve_by_elim only[BK101.out,qj,qk,qz]) hb);clear hb hbox hg)|((with_reducible refine gate_dst (N:=3) rfl ?_);refine box_event ?hg (N:=3) ?hd (cs:=#[.slice none 0 0,.slice none 0 0,.int .i64 0,.int .i64 0]) (t:=45) ?hr ?_;(case hd=>rfl);(case hg=>rfl);(case hr=>first|(go_simp;done)|(go_simp;rfl));intro gb103 hg w6 hbox hb;have BK103:=X.mk (hbox);have GW103:=X.mk ((by rw[hg];exact(qx (by solve_by_elim (maxDepth:=20) only[HB.out,O,U,L,qq,GE101.out,qq,GE102.out])):w.heap.size≤gb103));have GE103:=X.mk ((by rw[hg];exact(qx (by solve_by_elim (maxDepth:=20) only[HB.out,O,U,L,qq,GE101.out,qq,GE102.out])):w.heap.size≤gb103));replace HB:=X.mk (qw (by solve_by_elim (maxDepth:=20) only[HB.out,O,U,L,qq,GE101.out,qq,GE102.out]) hb);have NB101_103:=X.mk ((by rw[hg];exact Nat.ne_of_lt (blk_lt (g:=gb101) (o:=.cells #[.slice A0_0 l0_0.length c0_0,.slice A0_1 l0_1.length c0_1,.int .i64 a0_2,.int .i64 a0_3] 40 (0,0)) (by solve_by_elim only[BK101.out,qj,qk,qz])):gb101≠gb103));have NB103_101:=X.mk ((by rw[hg];exact Nat.ne_of_gt (blk_lt (g:=gb101) (o:=.cells #[.slice A0_0 l0_0.length c0_0,.slice A0_1 l0_1.length c0_1,.int .i64 a0_2,.int .i64 a0_3] 40 (0,0)) (by solve_by_elim only[BK101.out,qj,qk,qz])):gb103≠gb101));replace BK101:=X.mk (kj (g:=gb101) (o:=.cells #[.slice A0_0 l0_0.length c0_0,.slice A0_1 l0_1.length c0_1,.int .i64 a0_2,.int .i64 a0_3] 40 (0,0)) (by solve_by_elim only[BK101.out,qj,qk,qz]) hb);have NB102_103:=X.mk ((by rw[hg];exact Nat.ne_of_lt (blk_lt (g:=gb102) (o:=.cells #[.slice none 0 0,.slice none 0 0,.int .i64 0,.int .i64 0] 45 (0,0)) (by solve_by_elim only[BK102.out,qj,qk,qz])):gb102≠gb103));have NB103_102:=X.mk ((by rw[hg];exact Nat.ne_of_gt (blk_lt (g:=gb102) (o:=.cells #[.slice none 0 0,.slice none 0 0,.int .i64 0,.int .i64 0] 45 (0,0)) (by solve_by_elim only[BK102.out,qj,qk,qz])):gb103≠gb102));replace BK102:=X.mk (kj (g:=gb102) (o:=.cells #[.slice none 0 0,.slice none 0 0,.int .i64 0,.int .i64 0] 45 (0,0)) (by solve_by_elim only[BK102.out,qj,qk,qz]) hb);clear hb hbox hg;have hnb7:=NB101_102.out;have hnc7:=NB102_101.out;have hnb8:=NB101_103.out;have hnc8:=NB103_101.out;have hcz9_0:w6.cell? ⟨gb101,0,none⟩ = some (.slice A0_0 l0_0.length c0_0):=(I BK101.out 0).trans rfl;have hcz9_1:w6.cell? ⟨gb101,1,none⟩ = some (.slice A0_1 l0_1.length c0_1):=(I BK101.out 1).trans rfl;have hcz9_2:w6.cell? ⟨gb101,2,none⟩ = some (.int .i64 a0_2):=(I BK101.out 2).trans rfl;have hcz9_3:w6.cell? ⟨gb101,3,none⟩ = some (.int .i64 a0_3):=(I BK101.out 3).trans rfl;have hfz9_0:=J BK101.out 0;have hfz9_1:=J BK101.out 1;have hfz9_2:=J BK101.out 2;have hfz9_3:=J BK101.out 3)|((with_reducible refine zw (f:=46) rfl ?_);refine goesL_ (some 6) rfl rfl Try.func46 (by kernel_rfl) rfl #[.slice A0_0 l0_0.length c0_0] rfl (by(try simp only[jq0,jq1,jq2]);first|done|rfl|(simp only[jq3,jq4];rfl)) ?_;(with_reducible refine(qkq.calls k _ _ l0_0 t104 _ ?side1 ?side2 A2.out).mono ?_);(case side1=>solve_by_elim only[(Kd.C_below HR0_0.out HB.out),Kd.C_alloc,Kd.C_drewN,Kd.C_drew]);(case side2=>exact HC0_0.out);rintro e w10 ⟨v105,rfl,ho0,hb⟩;refine⟨_,rfl,?_⟩;have HO106:=X.mk (Kd.S_lower ho0 (qx (by solve_by_elim (maxDepth:=20) only[HB.out,O,U,L,qq,GE101.out,qq,GE102.out,qq,GE103.out])));replace BK101:=X.mk (kj (g:=gb101) (o:=.cells #[.slice A0_0 l0_0.length c0_0,.slice A0_1 l0_1.length c0_1,.int .i64 a0_2,.int .i64 a0_3] 40 (0,0)) (by solve_by_elim only[BK101.out,qj,qk,qz]) hb);replace BK102:=X.mk (kj (g:=gb102) (o:=.cells #[.slice none 0 0,.slice none 0 0,.int .i64 0,.int .i64 0] 45 (0,0)) (by solve_by_elim only[BK102.out,qj,qk,qz]) hb);replace BK103:=X.mk (kj (g:=gb103) (o:=.cells #[.slice none 0 0,.slice none 0 0,.int .i64 0,.int .i64 0] 45 (0,0)) (by solve_by_elim only[BK103.out,qj,qk,qz]) hb);replace HB:=X.mk (qw (by solve_by_elim (maxDepth:=20) only[HB.out,O,U,L,qq,GE101.out,qq,GE102.out,qq,GE103.out]) hb);(try clear hb ho0);obtain⟨Ao11,co11,eo11⟩:=Kd.S_slice HO106.out;subst eo11;have hnb12:=NB103_102.out;have hnc12:=NB102_103.out;have hcz13_0:w10.cell? ⟨gb103,0,none⟩ = some (.slice none 0 0):=(I BK103.out 0).trans rfl;have hcz13_1:w10.cell? ⟨gb103,1,none⟩ = some (.slice none 0 0):=(I BK103.out 1).trans rfl;have hcz13_2:w10.cell? ⟨gb103,2,none⟩ = some (.int .i64 0):=(I BK103.out 2).trans rfl;have hcz13_3:w10.cell? ⟨gb103,3,none⟩ = some (.int .i64 0):=(I BK103.out 3).trans rfl;have hfz13_0:=J BK103.out 0;have hfz13_1:=J BK103.out 1;have hfz13_2:=J BK103.out 2;have hfz13_3:=J BK103.out 3;have hcz14_0:w10.cell? ⟨gb101,0,none⟩ = some (.slice A0_0 l0_0.length c0_0):=(I BK101.out 0).trans rfl;have hcz14_1:w10.cell? ⟨gb101,1,none⟩ = some (.slice A0_1 l0_1.length c0_1):=(I BK101.out 1).trans rfl;have hcz14_2:w10.cell? ⟨gb101,2,none⟩ = some (.int .i64 a0_2):=(I BK101.out 2).trans rfl;have hcz14_3:w10.cell? ⟨gb101,3,none⟩ = some (.int .i64 a0_3):=(I BK101.out 3).trans rfl;have hfz14_0:=J BK101.out 0;have hfz14_1:=J BK101.out 1;have hfz14_2:=J BK101.out 2;have hfz14_3:=J BK101.out 3)|((with_reducible refine zw (f:=35) rfl ?_);refine goesL_ (some 10) rfl rfl Try.func35 (by kernel_rfl) rfl #[.slice A0_1 l0_1.length c0_1] rfl (by(try simp only[jq0,jq1,jq2]);first|done|rfl|(simp only[jq3,jq4];rfl)) ?_;(with_reducible refine(qjw.calls k _ _ l0_1 t107 _ ?side1 ?side2 A3.out).mono ?_);(case side1=>exact Kd.C_below HR0_1.out (by solve_by_elim (maxDepth:=20) only[HB.out,O,U,L,qq,GE101.out,qq,GE102.out,qq,GE103.out]));(case side2=>exact HC0_1.out);rintro e w15 ⟨v108,rfl,ho0,hb⟩;refine⟨_,rfl,?_⟩;replace HO106:=X.mk (Kd.S_elder' (by(with_reducible repeat(first|apply Kd.jk|apply Kd.jj|apply Kd.jv));exact(Kd.S_mono (Kd.S_far (p:=⟨gb103,0,none⟩) (Kd.S_types HO106.out BK103.out (by decide)) (fun _ hk=>hk.2) (.slice Ao11 t104.length co11)) (fun _ h_=>h_.1))) (Kd.R_base ho0) hb);have HO109:=X.mk (Kd.R_lower ho0 (qx (by solve_by_elim (maxDepth:=20) only[HB.out,O,U,L,qq,GE101.out,qq,GE102.out,qq,GE103.out])));replace BK101:=X.mk (kj (g:=gb101) (o:=.cells #[.slice A0_0 l0_0.length c0_0,.slice A0_1 l0_1.length c0_1,.int .i64 a0_2,.int .i64 a0_3] 40 (0,0)) (by(with_reducible repeat(first|refine qj ?_ _|refine qk ?_|refine qz ?_ _));refine blk_far ?_ NB101_103.out _;(with_reducible repeat(first|refine qj ?_ _|refine qk ?_|refine qz ?_ _));exact BK101.out) hb);replace BK102:=X.mk (kj (g:=gb102) (o:=.cells #[.slice none 0 0,.slice none 0 0,.int .i64 0,.int .i64 0] 45 (0,0)) (by(with_reducible repeat(first|refine qj ?_ _|refine qk ?_|refine qz ?_ _));refine blk_far ?_ NB102_103.out _;(with_reducible repeat(first|refine qj ?_ _|refine qk ?_|refine qz ?_ _));exact BK102.out) hb);replace BK103:=X.mk (kj (g:=gb103) (o:=.cells #[.slice Ao11 t104.length co11,.slice none 0 0,.int .i64 0,.int .i64 0] 45 (0,0)) (by(with_reducible repeat(first|refine qj ?_ _|refine qk ?_|refine qz ?_ _));refine blk_put (cs:=#[.slice none 0 0,.slice none 0 0,.int .i64 0,.int .i64 0]) ?_ 0 _ rfl;(with_reducible repeat(first|refine qj ?_ _|refine qk ?_|refine qz ?_ _));exact BK103.out) hb);replace HB:=X.mk (qw (by solve_by_elim (maxDepth:=20) only[HB.out,O,U,L,qq,GE101.out,qq,GE102.out,qq,GE103.out]) hb);(try clear hb ho0);obtain⟨Ao16,co16,eo16⟩:=Kd.R_slice HO109.out;subst eo16;have hcz17_0:w15.cell? ⟨gb103,0,none⟩ = some (.slice Ao11 t104.length co11):=(I BK103.out 0).trans rfl;have hcz17_1:w15.cell? ⟨gb103,1,none⟩ = some (.slice none 0 0):=(I BK103.out 1).trans rfl;have hcz17_2:w15.cell? ⟨gb103,2,none⟩ = some (.int .i64 0):=(I BK103.out 2).trans rfl;have hcz17_3:w15.cell? ⟨gb103,3,none⟩ = some (.int .i64 0):=(I BK103.out 3).trans rfl;have hfz17_0:=J BK103.out 0;have hfz17_1:=J BK103.out 1;have hfz17_2:=J BK103.out 2;have hfz17_3:=J BK103.out 3;have hcz18_0:w15.cell? ⟨gb101,0,none⟩ = some (.slice A0_0 l0_0.length c0_0):=(I BK101.out 0).trans rfl;have hcz18_1:w15.cell? ⟨gb101,1,none⟩ = some (.slice A0_1 l0_1.length c0_1):=(I BK101.out 1).trans rfl;have hcz18_2:w15.cell? ⟨gb101,2,none⟩ = some (.int .i64 a0_2):=(I BK101.out 2).trans rfl;have hcz18_3:w15.cell? ⟨gb101,3,none⟩ = some (.int .i64 a0_3):=(I BK101.out 3).trans rfl;have hfz18_0:=J BK101.out 0;have hfz18_1:=J BK101.out 1;have hfz18_2:=J BK101.out 2;have hfz18_3:=J BK101.out 3;have hcz19_0:w15.cell? ⟨gb102,0,none⟩ = some (.slice none 0 0):=(I BK102.out 0).trans rfl;have hcz19_1:w15.cell? ⟨gb102,1,none⟩ = some (.slice none 0 0):=(I BK102.out 1).trans rfl;have hcz19_2:w15.cell? ⟨gb102,2,none⟩ = some (.int .i64 0):=(I BK102.out 2).trans rfl;have hcz19_3:w15.cell? ⟨gb102,3,none⟩ = some (.int .i64 0):=(I BK102.out 3).trans rfl;have hfz19_0:=J BK102.out 0;have hfz19_1:=J BK102.out 1;have hfz19_2:=J BK102.out 2;have hfz19_3:=J BK102.out 3))
 refine bodyPost_ret (results_cell_row rfl _ _ gb102 45 #[.slice Ao11 t104.length co11,.slice Ao16 t107.length co16,.int .i64 a0_2,.int .i64 a0_3] (0,0) _ rfl (by(with_reducible repeat(first|refine qj ?_ _|refine qk ?_|refine qz ?_ _));refine blk_put (cs:=#[.slice Ao11 t104.length co11,.slice Ao16 t107.length co16,.int .i64 a0_2,.int .i64 0]) ?_ 3 _ rfl;(with_reducible repeat(first|refine qj ?_ _|refine qk ?_|refine qz ?_ _));refine blk_put (cs:=#[.slice Ao11 t104.length co11,.slice Ao16 t107.length co16,.int .i64 0,.int .i64 0]) ?_ 2 _ rfl;(with_reducible repeat(first|refine qj ?_ _|refine qk ?_|refine qz ?_ _));refine blk_put (cs:=#[.slice Ao11 t104.length co11,.slice none 0 0,.int .i64 0,.int .i64 0]) ?_ 1 _ rfl;(with_reducible repeat(first|refine qj ?_ _|refine qk ?_|refine qz ?_ _));refine blk_put (cs:=#[.slice none 0 0,.slice none 0 0,.int .i64 0,.int .i64 0]) ?_ 0 _ rfl;(with_reducible repeat(first|refine qj ?_ _|refine qk ?_|refine qz ?_ _));refine blk_far ?_ NB102_103.out _;(with_reducible repeat(first|refine qj ?_ _|refine qk ?_|refine qz ?_ _));refine blk_far ?_ NB102_103.out _;(with_reducible repeat(first|refine qj ?_ _|refine qk ?_|refine qz ?_ _));refine blk_far ?_ NB102_103.out _;(with_reducible repeat(first|refine qj ?_ _|refine qk ?_|refine qz ?_ _));exact BK102.out) Try.underlying45 rfl (by kernel_rfl)) rfl ?_
 exact⟨_,_,by first|rfl|(simp[*,zv,zk] <;> rfl),by(with_reducible repeat(first|apply Kd.jk|apply Kd.jj|apply Kd.jv));exact Kd.S_mono (Kd.S_far (p:=⟨gb102,3,none⟩) (Kd.S_far (p:=⟨gb102,2,none⟩) (Kd.S_far (p:=⟨gb102,1,none⟩) (Kd.S_far (p:=⟨gb102,0,none⟩) (Kd.S_far (p:=⟨gb103,3,none⟩) (Kd.S_far (p:=⟨gb103,2,none⟩) (Kd.S_far (p:=⟨gb103,1,none⟩) (Kd.S_types (Kd.S_types HO106.out BK103.out (by decide)) BK102.out (by decide)) (fun _ hk=>hk.1.2) (.slice Ao16 t107.length co16)) (fun _ hk=>hk.1.2) (.int .i64 a0_2)) (fun _ hk=>hk.1.2) (.int .i64 a0_3)) (fun _ hk=>hk.2) (.slice Ao11 t104.length co11)) (fun _ hk=>hk.2) (.slice Ao16 t107.length co16)) (fun _ hk=>hk.2) (.int .i64 a0_2)) (fun _ hk=>hk.2) (.int .i64 a0_3)) (fun _ hk=>hk.1.1.2),by(with_reducible repeat(first|apply Kd.zz|apply Kd.zq|apply Kd.zj));exact Kd.R_mono (Kd.R_far (p:=⟨gb102,3,none⟩) (Kd.R_far (p:=⟨gb102,2,none⟩) (Kd.R_far (p:=⟨gb102,1,none⟩) (Kd.R_far (p:=⟨gb102,0,none⟩) (Kd.R_far (p:=⟨gb103,3,none⟩) (Kd.R_far (p:=⟨gb103,2,none⟩) (Kd.R_far (p:=⟨gb103,1,none⟩) (Kd.R_types (Kd.R_types HO109.out BK103.out (by decide)) BK102.out (by decide)) (fun _ hk=>hk.1.2) (.slice Ao16 t107.length co16)) (fun _ hk=>hk.1.2) (.int .i64 a0_2)) (fun _ hk=>hk.1.2) (.int .i64 a0_3)) (fun _ hk=>hk.2) (.slice Ao11 t104.length co11)) (fun _ hk=>hk.2) (.slice Ao16 t107.length co16)) (fun _ hk=>hk.2) (.int .i64 a0_2)) (fun _ hk=>hk.2) (.int .i64 a0_3)) (fun _ hk=>trivial),by repeat(first|(with_reducible first|exact HB.out|apply O|apply U|apply L|refine qq ?_ GE101.out|refine qq ?_ GE102.out|refine qq ?_ GE103.out)|exact HB.out)⟩
def qzj.f (k:Nat) (l0_0:List (S77)) (l0_1:List Int) (a0_2:Int) (a0_3:Int) (l1_0:List (S77)) (l1_1:List Int) (a1_2:Int) (a1_3:Int):Option (Bool):=(qzq.f k l0_0 l1_0).bind fun t103=>(if t103=true then((qqw.f k l0_1 l1_1).bind fun t104=>(if t104=true then(if a0_2=a1_2 then(if a0_3=a1_3 then(some true) else(some false)) else(some false)) else(some false))) else(some false))
theorem qzj.calls (k:Nat) (A0_0:Option Addr) (c0_0:Nat) (l0_0:List (S77)) (A0_1:Option Addr) (c0_1:Nat) (l0_1:List Int) (a0_2:Int) (a0_3:Int) (A1_0:Option Addr) (c1_0:Nat) (l1_0:List (S77)) (A1_1:Option Addr) (c1_1:Nat) (l1_1:List Int) (a1_2:Int) (a1_3:Int) (r:Bool) (w:World) (hr0_0:Kd.C k77 w A0_0 l0_0.length l0_0) (hc0_0:l0_0.length≤c0_0) (hr0_1:Kd.C (Kd.int .u8) w A0_1 l0_1.length l0_1) (hc0_1:l0_1.length≤c0_1) (hr1_0:Kd.C k77 w A1_0 l1_0.length l1_0) (hc1_0:l1_0.length≤c1_0) (hr1_1:Kd.C (Kd.int .u8) w A1_1 l1_1.length l1_1) (hc1_1:l1_1.length≤c1_1) (h:qzj.f k l0_0 l0_1 a0_2 a0_3 l1_0 l1_1 a1_2 a1_3=some r) :
  Calls Try.prog 22 #[.agg #[.slice A0_0 l0_0.length c0_0,.slice A0_1 l0_1.length c0_1,.int .i64 a0_2,.int .i64 a0_3],.agg #[.slice A1_0 l1_0.length c1_0,.slice A1_1 l1_1.length c1_1,.int .i64 a1_2,.int .i64 a1_3]] w fun e w'=>e=.returned (.bool r)∧Below w.heap.size w w':=by
 have hu45:=Try.underlying45
 have HR0_0:=X.mk hr0_0
 have HC0_0:=X.mk hc0_0
 clear hr0_0 hc0_0
 have HR0_1:=X.mk hr0_1
 have HC0_1:=X.mk hc0_1
 clear hr0_1 hc0_1
 have HR1_0:=X.mk hr1_0
 have HC1_0:=X.mk hc1_0
 clear hr1_0 hc1_0
 have HR1_1:=X.mk hr1_1
 have HC1_1:=X.mk hc1_1
 clear hr1_1 hc1_1
 have HB:=X.mk (Below.refl w.heap.size w)
 unfold qzj.f at h
 have H:=h
 clear h
 replace H:=jq8.mp H
 obtain⟨t103,A30,H⟩:=H
 try dsimp only at H
 have A3:=X.mk A30
 clear A30
 by_cases c4:t103=true
 ·subst c4
  have H1:((qqw.f k l0_1 l1_1).bind fun t104=>(if t104=true then(if a0_2=a1_2 then(if a0_3=a1_3 then(some true) else(some false)) else(some false)) else(some false)))=some r:=by rw[if_pos rfl] at H;exact H
  clear H
  have H:=H1
  clear H1
  replace H:=jq8.mp H
  obtain⟨t104,A50,H⟩:=H
  try dsimp only at H
  have A5:=X.mk A50
  clear A50
  by_cases c6:t104=true
  ·subst c6
   have H1:(if a0_2=a1_2 then(if a0_3=a1_3 then(some true) else(some false)) else(some false))=some r:=by rw[if_pos rfl] at H;exact H
   clear H
   have H:=H1
   clear H1
   by_cases c7:a0_2=a1_2
   ·rw[if_pos c7] at H
    have c7b0:(a0_2 == a1_2)=true:=beq_iff_eq.mpr c7
    have c7b1:(a0_2 != a1_2)=false:=bne_eq_false_iff_eq.mpr c7
    clear c7
    by_cases c8:a0_3=a1_3
    ·rw[if_pos c8] at H
     have c8b0:(a0_3 == a1_3)=true:=beq_iff_eq.mpr c8
     have c8b1:(a0_3 != a1_3)=false:=bne_eq_false_iff_eq.mpr c8
     clear c8
     obtain rfl:=Option.some.inj H
     go_enter Try.func22,Try.ntmps22
     go_wp2_with (first|((with_reducible refine gate_dst (N:=2) rfl ?_);refine box_event ?hg (N:=2) ?hd (cs:=#[.slice A0_0 l0_0.length c0_0,.slice A0_1 l0_1.length c0_1,.int .i64 a0_2,.int .i64 a0_3]) (t:=45) ?hr ?_;(case hd=>rfl);(case hg=>rfl);(case hr=>first|(go_simp;done)|(go_simp;rfl));intro gb101 hg w9 hbox hb;have BK101:=X.mk (hbox);have GW101:=X.mk ((by rw[hg];exact(qx (by solve_by_elim only[HB.out,O,U,L])):w.heap.size≤gb101));have GE101:=X.mk ((by rw[hg];exact(qx (by solve_by_elim only[HB.out,O,U,L])):w.heap.size≤gb101));replace HB:=X.mk (qw (by solve_by_elim only[HB.out,O,U,L]) hb);clear hb hbox hg)|((with_reducible refine gate_dst (N:=3) rfl ?_);refine box_event ?hg (N:=3) ?hd (cs:=#[.slice A1_0 l1_0.length c1_0,.slice A1_1 l1_1.length c1_1,.int .i64 a1_2,.int .i64 a1_3]) (t:=45) ?hr ?_;(case hd=>rfl);(case hg=>rfl);(case hr=>first|(go_simp;done)|(go_simp;rfl));intro gb102 hg w10 hbox hb;have BK102:=X.mk (hbox);have GW102:=X.mk ((by rw[hg];exact(qx (by solve_by_elim (maxDepth:=20) only[HB.out,O,U,L,qq,GE101.out])):w.heap.size≤gb102));have GE102:=X.mk ((by rw[hg];exact(qx (by solve_by_elim (maxDepth:=20) only[HB.out,O,U,L,qq,GE101.out])):w.heap.size≤gb102));replace HB:=X.mk (qw (by solve_by_elim (maxDepth:=20) only[HB.out,O,U,L,qq,GE101.out]) hb);have NB101_102:=X.mk ((by rw[hg];exact Nat.ne_of_lt (blk_lt (g:=gb101) (o:=.cells #[.slice A0_0 l0_0.length c0_0,.slice A0_1 l0_1.length c0_1,.int .i64 a0_2,.int .i64 a0_3] 45 (0,0)) (by solve_by_elim only[BK101.out,qj,qk,qz])):gb101≠gb102));have NB102_101:=X.mk ((by rw[hg];exact Nat.ne_of_gt (blk_lt (g:=gb101) (o:=.cells #[.slice A0_0 l0_0.length c0_0,.slice A0_1 l0_1.length c0_1,.int .i64 a0_2,.int .i64 a0_3] 45 (0,0)) (by solve_by_elim only[BK101.out,qj,qk,qz])):gb102≠gb101));replace BK101:=X.mk (kj (g:=gb101) (o:=.cells #[.slice A0_0 l0_0.length c0_0,.slice A0_1 l0_1.length c0_1,.int .i64 a0_2,.int .i64 a0_3] 45 (0,0)) (by solve_by_elim only[BK101.out,qj,qk,qz]) hb);clear hb hbox hg;have hnb11:=NB101_102.out;have hnc11:=NB102_101.out;have hcz12_0:w10.cell? ⟨gb101,0,none⟩ = some (.slice A0_0 l0_0.length c0_0):=(I BK101.out 0).trans rfl;have hcz12_1:w10.cell? ⟨gb101,1,none⟩ = some (.slice A0_1 l0_1.length c0_1):=(I BK101.out 1).trans rfl;have hcz12_2:w10.cell? ⟨gb101,2,none⟩ = some (.int .i64 a0_2):=(I BK101.out 2).trans rfl;have hcz12_3:w10.cell? ⟨gb101,3,none⟩ = some (.int .i64 a0_3):=(I BK101.out 3).trans rfl;have hfz12_0:=J BK101.out 0;have hfz12_1:=J BK101.out 1;have hfz12_2:=J BK101.out 2;have hfz12_3:=J BK101.out 3;have hcz13_0:w10.cell? ⟨gb102,0,none⟩ = some (.slice A1_0 l1_0.length c1_0):=(I BK102.out 0).trans rfl;have hcz13_1:w10.cell? ⟨gb102,1,none⟩ = some (.slice A1_1 l1_1.length c1_1):=(I BK102.out 1).trans rfl;have hcz13_2:w10.cell? ⟨gb102,2,none⟩ = some (.int .i64 a1_2):=(I BK102.out 2).trans rfl;have hcz13_3:w10.cell? ⟨gb102,3,none⟩ = some (.int .i64 a1_3):=(I BK102.out 3).trans rfl;have hfz13_0:=J BK102.out 0;have hfz13_1:=J BK102.out 1;have hfz13_2:=J BK102.out 2;have hfz13_3:=J BK102.out 3)|((with_reducible refine zw (f:=53) rfl ?_);refine goesL_ (some 9) rfl rfl Try.func53 (by kernel_rfl) rfl #[.slice A0_0 l0_0.length c0_0,.slice A1_0 l1_0.length c1_0] rfl (by(try simp only[jq0,jq1,jq2]);first|done|rfl|(simp only[jq3,jq4];rfl)) ?_;(with_reducible refine(qzq.calls k _ _ l0_0 _ _ l1_0 true _ ?side1 ?side2 ?side3 ?side4 A3.out).mono ?_);(case side1=>solve_by_elim only[(Kd.C_below HR0_0.out HB.out),Kd.C_alloc,Kd.C_drewN,Kd.C_drew]);(case side2=>exact HC0_0.out);(case side3=>solve_by_elim only[(Kd.C_below HR1_0.out HB.out),Kd.C_alloc,Kd.C_drewN,Kd.C_drew]);(case side4=>exact HC1_0.out);rintro e w14 ⟨rfl,hb⟩;refine⟨_,rfl,?_⟩;replace BK101:=X.mk (kj (g:=gb101) (o:=.cells #[.slice A0_0 l0_0.length c0_0,.slice A0_1 l0_1.length c0_1,.int .i64 a0_2,.int .i64 a0_3] 45 (0,0)) (by solve_by_elim only[BK101.out,qj,qk,qz]) hb);replace BK102:=X.mk (kj (g:=gb102) (o:=.cells #[.slice A1_0 l1_0.length c1_0,.slice A1_1 l1_1.length c1_1,.int .i64 a1_2,.int .i64 a1_3] 45 (0,0)) (by solve_by_elim only[BK102.out,qj,qk,qz]) hb);replace HB:=X.mk (qw (by solve_by_elim (maxDepth:=20) only[HB.out,O,U,L,qq,GE101.out,qq,GE102.out]) hb);(try clear hb);have hcz15_0:w14.cell? ⟨gb101,0,none⟩ = some (.slice A0_0 l0_0.length c0_0):=(I BK101.out 0).trans rfl;have hcz15_1:w14.cell? ⟨gb101,1,none⟩ = some (.slice A0_1 l0_1.length c0_1):=(I BK101.out 1).trans rfl;have hcz15_2:w14.cell? ⟨gb101,2,none⟩ = some (.int .i64 a0_2):=(I BK101.out 2).trans rfl;have hcz15_3:w14.cell? ⟨gb101,3,none⟩ = some (.int .i64 a0_3):=(I BK101.out 3).trans rfl;have hfz15_0:=J BK101.out 0;have hfz15_1:=J BK101.out 1;have hfz15_2:=J BK101.out 2;have hfz15_3:=J BK101.out 3;have hcz16_0:w14.cell? ⟨gb102,0,none⟩ = some (.slice A1_0 l1_0.length c1_0):=(I BK102.out 0).trans rfl;have hcz16_1:w14.cell? ⟨gb102,1,none⟩ = some (.slice A1_1 l1_1.length c1_1):=(I BK102.out 1).trans rfl;have hcz16_2:w14.cell? ⟨gb102,2,none⟩ = some (.int .i64 a1_2):=(I BK102.out 2).trans rfl;have hcz16_3:w14.cell? ⟨gb102,3,none⟩ = some (.int .i64 a1_3):=(I BK102.out 3).trans rfl;have hfz16_0:=J BK102.out 0;have hfz16_1:=J BK102.out 1;have hfz16_2:=J BK102.out 2;have hfz16_3:=J BK102.out 3)|((with_reducible refine zw (f:=36) rfl ?_);refine goesL_ (some 15) rfl rfl Try.func36 (by kernel_rfl) rfl #[.slice A0_1 l0_1.length c0_1,.slice A1_1 l1_1.length c1_1] rfl (by(try simp only[jq0,jq1,jq2]);first|done|rfl|(simp only[jq3,jq4];rfl)) ?_;(with_reducible refine(qqw.calls k _ _ l0_1 _ _ l1_1 true _ ?side1 ?side2 ?side3 ?side4 A5.out).mono ?_);(case side1=>solve_by_elim only[(Kd.C_below HR0_1.out HB.out),Kd.C_alloc,Kd.C_drewN,Kd.C_drew]);(case side2=>exact HC0_1.out);(case side3=>solve_by_elim only[(Kd.C_below HR1_1.out HB.out),Kd.C_alloc,Kd.C_drewN,Kd.C_drew]);(case side4=>exact HC1_1.out);rintro e w' ⟨rfl,⟨nd,rfl⟩⟩;refine⟨_,rfl,?_⟩))
     go_ret
     exact⟨by first|rfl|(simp[*,zv,zk] <;> rfl),by repeat(first|(with_reducible first|exact HB.out|apply O|apply U|apply L|refine qq ?_ GE101.out|refine qq ?_ GE102.out)|exact HB.out)⟩
    ·rw[if_neg c8] at H
     have c8b0:(a0_3 == a1_3)=false:=beq_eq_false_iff_ne.mpr c8
     have c8b1:(a0_3 != a1_3)=true:=bne_iff_ne.mpr c8
     obtain rfl:=Option.some.inj H
     go_enter Try.func22,Try.ntmps22
     go_wp2_with (first|((with_reducible refine gate_dst (N:=2) rfl ?_);refine box_event ?hg (N:=2) ?hd (cs:=#[.slice A0_0 l0_0.length c0_0,.slice A0_1 l0_1.length c0_1,.int .i64 a0_2,.int .i64 a0_3]) (t:=45) ?hr ?_;(case hd=>rfl);(case hg=>rfl);(case hr=>first|(go_simp;done)|(go_simp;rfl));intro gb101 hg w17 hbox hb;have BK101:=X.mk (hbox);have GW101:=X.mk ((by rw[hg];exact(qx (by solve_by_elim only[HB.out,O,U,L])):w.heap.size≤gb101));have GE101:=X.mk ((by rw[hg];exact(qx (by solve_by_elim only[HB.out,O,U,L])):w.heap.size≤gb101));replace HB:=X.mk (qw (by solve_by_elim only[HB.out,O,U,L]) hb);clear hb hbox hg)|((with_reducible refine gate_dst (N:=3) rfl ?_);refine box_event ?hg (N:=3) ?hd (cs:=#[.slice A1_0 l1_0.length c1_0,.slice A1_1 l1_1.length c1_1,.int .i64 a1_2,.int .i64 a1_3]) (t:=45) ?hr ?_;(case hd=>rfl);(case hg=>rfl);(case hr=>first|(go_simp;done)|(go_simp;rfl));intro gb102 hg w18 hbox hb;have BK102:=X.mk (hbox);have GW102:=X.mk ((by rw[hg];exact(qx (by solve_by_elim (maxDepth:=20) only[HB.out,O,U,L,qq,GE101.out])):w.heap.size≤gb102));have GE102:=X.mk ((by rw[hg];exact(qx (by solve_by_elim (maxDepth:=20) only[HB.out,O,U,L,qq,GE101.out])):w.heap.size≤gb102));replace HB:=X.mk (qw (by solve_by_elim (maxDepth:=20) only[HB.out,O,U,L,qq,GE101.out]) hb);have NB101_102:=X.mk ((by rw[hg];exact Nat.ne_of_lt (blk_lt (g:=gb101) (o:=.cells #[.slice A0_0 l0_0.length c0_0,.slice A0_1 l0_1.length c0_1,.int .i64 a0_2,.int .i64 a0_3] 45 (0,0)) (by solve_by_elim only[BK101.out,qj,qk,qz])):gb101≠gb102));have NB102_101:=X.mk ((by rw[hg];exact Nat.ne_of_gt (blk_lt (g:=gb101) (o:=.cells #[.slice A0_0 l0_0.length c0_0,.slice A0_1 l0_1.length c0_1,.int .i64 a0_2,.int .i64 a0_3] 45 (0,0)) (by solve_by_elim only[BK101.out,qj,qk,qz])):gb102≠gb101));replace BK101:=X.mk (kj (g:=gb101) (o:=.cells #[.slice A0_0 l0_0.length c0_0,.slice A0_1 l0_1.length c0_1,.int .i64 a0_2,.int .i64 a0_3] 45 (0,0)) (by solve_by_elim only[BK101.out,qj,qk,qz]) hb);clear hb hbox hg;have hnb19:=NB101_102.out;have hnc19:=NB102_101.out;have hcz20_0:w18.cell? ⟨gb101,0,none⟩ = some (.slice A0_0 l0_0.length c0_0):=(I BK101.out 0).trans rfl;have hcz20_1:w18.cell? ⟨gb101,1,none⟩ = some (.slice A0_1 l0_1.length c0_1):=(I BK101.out 1).trans rfl;have hcz20_2:w18.cell? ⟨gb101,2,none⟩ = some (.int .i64 a0_2):=(I BK101.out 2).trans rfl;have hcz20_3:w18.cell? ⟨gb101,3,none⟩ = some (.int .i64 a0_3):=(I BK101.out 3).trans rfl;have hfz20_0:=J BK101.out 0;have hfz20_1:=J BK101.out 1;have hfz20_2:=J BK101.out 2;have hfz20_3:=J BK101.out 3;have hcz21_0:w18.cell? ⟨gb102,0,none⟩ = some (.slice A1_0 l1_0.length c1_0):=(I BK102.out 0).trans rfl;have hcz21_1:w18.cell? ⟨gb102,1,none⟩ = some (.slice A1_1 l1_1.length c1_1):=(I BK102.out 1).trans rfl;have hcz21_2:w18.cell? ⟨gb102,2,none⟩ = some (.int .i64 a1_2):=(I BK102.out 2).trans rfl;have hcz21_3:w18.cell? ⟨gb102,3,none⟩ = some (.int .i64 a1_3):=(I BK102.out 3).trans rfl;have hfz21_0:=J BK102.out 0;have hfz21_1:=J BK102.out 1;have hfz21_2:=J BK102.out 2;have hfz21_3:=J BK102.out 3)|((with_reducible refine zw (f:=53) rfl ?_);refine goesL_ (some 9) rfl rfl Try.func53 (by kernel_rfl) rfl #[.slice A0_0 l0_0.length c0_0,.slice A1_0 l1_0.length c1_0] rfl (by(try simp only[jq0,jq1,jq2]);first|done|rfl|(simp only[jq3,jq4];rfl)) ?_;(with_reducible refine(qzq.calls k _ _ l0_0 _ _ l1_0 true _ ?side1 ?side2 ?side3 ?side4 A3.out).mono ?_);(case side1=>solve_by_elim only[(Kd.C_below HR0_0.out HB.out),Kd.C_alloc,Kd.C_drewN,Kd.C_drew]);(case side2=>exact HC0_0.out);(case side3=>solve_by_elim only[(Kd.C_below HR1_0.out HB.out),Kd.C_alloc,Kd.C_drewN,Kd.C_drew]);(case side4=>exact HC1_0.out);rintro e w22 ⟨rfl,hb⟩;refine⟨_,rfl,?_⟩;replace BK101:=X.mk (kj (g:=gb101) (o:=.cells #[.slice A0_0 l0_0.length c0_0,.slice A0_1 l0_1.length c0_1,.int .i64 a0_2,.int .i64 a0_3] 45 (0,0)) (by solve_by_elim only[BK101.out,qj,qk,qz]) hb);replace BK102:=X.mk (kj (g:=gb102) (o:=.cells #[.slice A1_0 l1_0.length c1_0,.slice A1_1 l1_1.length c1_1,.int .i64 a1_2,.int .i64 a1_3] 45 (0,0)) (by solve_by_elim only[BK102.out,qj,qk,qz]) hb);replace HB:=X.mk (qw (by solve_by_elim (maxDepth:=20) only[HB.out,O,U,L,qq,GE101.out,qq,GE102.out]) hb);(try clear hb);have hcz23_0:w22.cell? ⟨gb101,0,none⟩ = some (.slice A0_0 l0_0.length c0_0):=(I BK101.out 0).trans rfl;have hcz23_1:w22.cell? ⟨gb101,1,none⟩ = some (.slice A0_1 l0_1.length c0_1):=(I BK101.out 1).trans rfl;have hcz23_2:w22.cell? ⟨gb101,2,none⟩ = some (.int .i64 a0_2):=(I BK101.out 2).trans rfl;have hcz23_3:w22.cell? ⟨gb101,3,none⟩ = some (.int .i64 a0_3):=(I BK101.out 3).trans rfl;have hfz23_0:=J BK101.out 0;have hfz23_1:=J BK101.out 1;have hfz23_2:=J BK101.out 2;have hfz23_3:=J BK101.out 3;have hcz24_0:w22.cell? ⟨gb102,0,none⟩ = some (.slice A1_0 l1_0.length c1_0):=(I BK102.out 0).trans rfl;have hcz24_1:w22.cell? ⟨gb102,1,none⟩ = some (.slice A1_1 l1_1.length c1_1):=(I BK102.out 1).trans rfl;have hcz24_2:w22.cell? ⟨gb102,2,none⟩ = some (.int .i64 a1_2):=(I BK102.out 2).trans rfl;have hcz24_3:w22.cell? ⟨gb102,3,none⟩ = some (.int .i64 a1_3):=(I BK102.out 3).trans rfl;have hfz24_0:=J BK102.out 0;have hfz24_1:=J BK102.out 1;have hfz24_2:=J BK102.out 2;have hfz24_3:=J BK102.out 3)|((with_reducible refine zw (f:=36) rfl ?_);refine goesL_ (some 15) rfl rfl Try.func36 (by kernel_rfl) rfl #[.slice A0_1 l0_1.length c0_1,.slice A1_1 l1_1.length c1_1] rfl (by(try simp only[jq0,jq1,jq2]);first|done|rfl|(simp only[jq3,jq4];rfl)) ?_;(with_reducible refine(qqw.calls k _ _ l0_1 _ _ l1_1 true _ ?side1 ?side2 ?side3 ?side4 A5.out).mono ?_);(case side1=>solve_by_elim only[(Kd.C_below HR0_1.out HB.out),Kd.C_alloc,Kd.C_drewN,Kd.C_drew]);(case side2=>exact HC0_1.out);(case side3=>solve_by_elim only[(Kd.C_below HR1_1.out HB.out),Kd.C_alloc,Kd.C_drewN,Kd.C_drew]);(case side4=>exact HC1_1.out);rintro e w' ⟨rfl,⟨nd,rfl⟩⟩;refine⟨_,rfl,?_⟩))
     go_ret
     exact⟨by first|rfl|(simp[*,zv,zk] <;> rfl),by repeat(first|(with_reducible first|exact HB.out|apply O|apply U|apply L|refine qq ?_ GE101.out|refine qq ?_ GE102.out)|exact HB.out)⟩
   ·rw[if_neg c7] at H
    have c7b0:(a0_2 == a1_2)=false:=beq_eq_false_iff_ne.mpr c7
    have c7b1:(a0_2 != a1_2)=true:=bne_iff_ne.mpr c7
    obtain rfl:=Option.some.inj H
    go_enter Try.func22,Try.ntmps22
    go_wp2_with (first|((with_reducible refine gate_dst (N:=2) rfl ?_);refine box_event ?hg (N:=2) ?hd (cs:=#[.slice A0_0 l0_0.length c0_0,.slice A0_1 l0_1.length c0_1,.int .i64 a0_2,.int .i64 a0_3]) (t:=45) ?hr ?_;(case hd=>rfl);(case hg=>rfl);(case hr=>first|(go_simp;done)|(go_simp;rfl));intro gb101 hg w25 hbox hb;have BK101:=X.mk (hbox);have GW101:=X.mk ((by rw[hg];exact(qx (by solve_by_elim only[HB.out,O,U,L])):w.heap.size≤gb101));have GE101:=X.mk ((by rw[hg];exact(qx (by solve_by_elim only[HB.out,O,U,L])):w.heap.size≤gb101));replace HB:=X.mk (qw (by solve_by_elim only[HB.out,O,U,L]) hb);clear hb hbox hg)|((with_reducible refine gate_dst (N:=3) rfl ?_);refine box_event ?hg (N:=3) ?hd (cs:=#[.slice A1_0 l1_0.length c1_0,.slice A1_1 l1_1.length c1_1,.int .i64 a1_2,.int .i64 a1_3]) (t:=45) ?hr ?_;(case hd=>rfl);(case hg=>rfl);(case hr=>first|(go_simp;done)|(go_simp;rfl));intro gb102 hg w26 hbox hb;have BK102:=X.mk (hbox);have GW102:=X.mk ((by rw[hg];exact(qx (by solve_by_elim (maxDepth:=20) only[HB.out,O,U,L,qq,GE101.out])):w.heap.size≤gb102));have GE102:=X.mk ((by rw[hg];exact(qx (by solve_by_elim (maxDepth:=20) only[HB.out,O,U,L,qq,GE101.out])):w.heap.size≤gb102));replace HB:=X.mk (qw (by solve_by_elim (maxDepth:=20) only[HB.out,O,U,L,qq,GE101.out]) hb);have NB101_102:=X.mk ((by rw[hg];exact Nat.ne_of_lt (blk_lt (g:=gb101) (o:=.cells #[.slice A0_0 l0_0.length c0_0,.slice A0_1 l0_1.length c0_1,.int .i64 a0_2,.int .i64 a0_3] 45 (0,0)) (by solve_by_elim only[BK101.out,qj,qk,qz])):gb101≠gb102));have NB102_101:=X.mk ((by rw[hg];exact Nat.ne_of_gt (blk_lt (g:=gb101) (o:=.cells #[.slice A0_0 l0_0.length c0_0,.slice A0_1 l0_1.length c0_1,.int .i64 a0_2,.int .i64 a0_3] 45 (0,0)) (by solve_by_elim only[BK101.out,qj,qk,qz])):gb102≠gb101));replace BK101:=X.mk (kj (g:=gb101) (o:=.cells #[.slice A0_0 l0_0.length c0_0,.slice A0_1 l0_1.length c0_1,.int .i64 a0_2,.int .i64 a0_3] 45 (0,0)) (by solve_by_elim only[BK101.out,qj,qk,qz]) hb);clear hb hbox hg;have hnb27:=NB101_102.out;have hnc27:=NB102_101.out;have hcz28_0:w26.cell? ⟨gb101,0,none⟩ = some (.slice A0_0 l0_0.length c0_0):=(I BK101.out 0).trans rfl;have hcz28_1:w26.cell? ⟨gb101,1,none⟩ = some (.slice A0_1 l0_1.length c0_1):=(I BK101.out 1).trans rfl;have hcz28_2:w26.cell? ⟨gb101,2,none⟩ = some (.int .i64 a0_2):=(I BK101.out 2).trans rfl;have hcz28_3:w26.cell? ⟨gb101,3,none⟩ = some (.int .i64 a0_3):=(I BK101.out 3).trans rfl;have hfz28_0:=J BK101.out 0;have hfz28_1:=J BK101.out 1;have hfz28_2:=J BK101.out 2;have hfz28_3:=J BK101.out 3;have hcz29_0:w26.cell? ⟨gb102,0,none⟩ = some (.slice A1_0 l1_0.length c1_0):=(I BK102.out 0).trans rfl;have hcz29_1:w26.cell? ⟨gb102,1,none⟩ = some (.slice A1_1 l1_1.length c1_1):=(I BK102.out 1).trans rfl;have hcz29_2:w26.cell? ⟨gb102,2,none⟩ = some (.int .i64 a1_2):=(I BK102.out 2).trans rfl;have hcz29_3:w26.cell? ⟨gb102,3,none⟩ = some (.int .i64 a1_3):=(I BK102.out 3).trans rfl;have hfz29_0:=J BK102.out 0;have hfz29_1:=J BK102.out 1;have hfz29_2:=J BK102.out 2;have hfz29_3:=J BK102.out 3)|((with_reducible refine zw (f:=53) rfl ?_);refine goesL_ (some 9) rfl rfl Try.func53 (by kernel_rfl) rfl #[.slice A0_0 l0_0.length c0_0,.slice A1_0 l1_0.length c1_0] rfl (by(try simp only[jq0,jq1,jq2]);first|done|rfl|(simp only[jq3,jq4];rfl)) ?_;(with_reducible refine(qzq.calls k _ _ l0_0 _ _ l1_0 true _ ?side1 ?side2 ?side3 ?side4 A3.out).mono ?_);(case side1=>solve_by_elim only[(Kd.C_below HR0_0.out HB.out),Kd.C_alloc,Kd.C_drewN,Kd.C_drew]);(case side2=>exact HC0_0.out);(case side3=>solve_by_elim only[(Kd.C_below HR1_0.out HB.out),Kd.C_alloc,Kd.C_drewN,Kd.C_drew]);(case side4=>exact HC1_0.out);rintro e w30 ⟨rfl,hb⟩;refine⟨_,rfl,?_⟩;replace BK101:=X.mk (kj (g:=gb101) (o:=.cells #[.slice A0_0 l0_0.length c0_0,.slice A0_1 l0_1.length c0_1,.int .i64 a0_2,.int .i64 a0_3] 45 (0,0)) (by solve_by_elim only[BK101.out,qj,qk,qz]) hb);replace BK102:=X.mk (kj (g:=gb102) (o:=.cells #[.slice A1_0 l1_0.length c1_0,.slice A1_1 l1_1.length c1_1,.int .i64 a1_2,.int .i64 a1_3] 45 (0,0)) (by solve_by_elim only[BK102.out,qj,qk,qz]) hb);replace HB:=X.mk (qw (by solve_by_elim (maxDepth:=20) only[HB.out,O,U,L,qq,GE101.out,qq,GE102.out]) hb);(try clear hb);have hcz31_0:w30.cell? ⟨gb101,0,none⟩ = some (.slice A0_0 l0_0.length c0_0):=(I BK101.out 0).trans rfl;have hcz31_1:w30.cell? ⟨gb101,1,none⟩ = some (.slice A0_1 l0_1.length c0_1):=(I BK101.out 1).trans rfl;have hcz31_2:w30.cell? ⟨gb101,2,none⟩ = some (.int .i64 a0_2):=(I BK101.out 2).trans rfl;have hcz31_3:w30.cell? ⟨gb101,3,none⟩ = some (.int .i64 a0_3):=(I BK101.out 3).trans rfl;have hfz31_0:=J BK101.out 0;have hfz31_1:=J BK101.out 1;have hfz31_2:=J BK101.out 2;have hfz31_3:=J BK101.out 3;have hcz32_0:w30.cell? ⟨gb102,0,none⟩ = some (.slice A1_0 l1_0.length c1_0):=(I BK102.out 0).trans rfl;have hcz32_1:w30.cell? ⟨gb102,1,none⟩ = some (.slice A1_1 l1_1.length c1_1):=(I BK102.out 1).trans rfl;have hcz32_2:w30.cell? ⟨gb102,2,none⟩ = some (.int .i64 a1_2):=(I BK102.out 2).trans rfl;have hcz32_3:w30.cell? ⟨gb102,3,none⟩ = some (.int .i64 a1_3):=(I BK102.out 3).trans rfl;have hfz32_0:=J BK102.out 0;have hfz32_1:=J BK102.out 1;have hfz32_2:=J BK102.out 2;have hfz32_3:=J BK102.out 3)|((with_reducible refine zw (f:=36) rfl ?_);refine goesL_ (some 15) rfl rfl Try.func36 (by kernel_rfl) rfl #[.slice A0_1 l0_1.length c0_1,.slice A1_1 l1_1.length c1_1] rfl (by(try simp only[jq0,jq1,jq2]);first|done|rfl|(simp only[jq3,jq4];rfl)) ?_;(with_reducible refine(qqw.calls k _ _ l0_1 _ _ l1_1 true _ ?side1 ?side2 ?side3 ?side4 A5.out).mono ?_);(case side1=>solve_by_elim only[(Kd.C_below HR0_1.out HB.out),Kd.C_alloc,Kd.C_drewN,Kd.C_drew]);(case side2=>exact HC0_1.out);(case side3=>solve_by_elim only[(Kd.C_below HR1_1.out HB.out),Kd.C_alloc,Kd.C_drewN,Kd.C_drew]);(case side4=>exact HC1_1.out);rintro e w' ⟨rfl,⟨nd,rfl⟩⟩;refine⟨_,rfl,?_⟩))
    go_ret
    exact⟨by first|rfl|(simp[*,zv,zk] <;> rfl),by repeat(first|(with_reducible first|exact HB.out|apply O|apply U|apply L|refine qq ?_ GE101.out|refine qq ?_ GE102.out)|exact HB.out)⟩
  ·replace c6:=jq9.mpr c6
   subst c6
   have H1:(some false)=some r:=by rw[if_neg (show ¬ (false=true) by decide)] at H;exact H
   clear H
   have H:=H1
   clear H1
   obtain rfl:=Option.some.inj H
   go_enter Try.func22,Try.ntmps22
   go_wp2_with (first|((with_reducible refine gate_dst (N:=2) rfl ?_);refine box_event ?hg (N:=2) ?hd (cs:=#[.slice A0_0 l0_0.length c0_0,.slice A0_1 l0_1.length c0_1,.int .i64 a0_2,.int .i64 a0_3]) (t:=45) ?hr ?_;(case hd=>rfl);(case hg=>rfl);(case hr=>first|(go_simp;done)|(go_simp;rfl));intro gb101 hg w33 hbox hb;have BK101:=X.mk (hbox);have GW101:=X.mk ((by rw[hg];exact(qx (by solve_by_elim only[HB.out,O,U,L])):w.heap.size≤gb101));have GE101:=X.mk ((by rw[hg];exact(qx (by solve_by_elim only[HB.out,O,U,L])):w.heap.size≤gb101));replace HB:=X.mk (qw (by solve_by_elim only[HB.out,O,U,L]) hb);clear hb hbox hg)|((with_reducible refine gate_dst (N:=3) rfl ?_);refine box_event ?hg (N:=3) ?hd (cs:=#[.slice A1_0 l1_0.length c1_0,.slice A1_1 l1_1.length c1_1,.int .i64 a1_2,.int .i64 a1_3]) (t:=45) ?hr ?_;(case hd=>rfl);(case hg=>rfl);(case hr=>first|(go_simp;done)|(go_simp;rfl));intro gb102 hg w34 hbox hb;have BK102:=X.mk (hbox);have GW102:=X.mk ((by rw[hg];exact(qx (by solve_by_elim (maxDepth:=20) only[HB.out,O,U,L,qq,GE101.out])):w.heap.size≤gb102));have GE102:=X.mk ((by rw[hg];exact(qx (by solve_by_elim (maxDepth:=20) only[HB.out,O,U,L,qq,GE101.out])):w.heap.size≤gb102));replace HB:=X.mk (qw (by solve_by_elim (maxDepth:=20) only[HB.out,O,U,L,qq,GE101.out]) hb);have NB101_102:=X.mk ((by rw[hg];exact Nat.ne_of_lt (blk_lt (g:=gb101) (o:=.cells #[.slice A0_0 l0_0.length c0_0,.slice A0_1 l0_1.length c0_1,.int .i64 a0_2,.int .i64 a0_3] 45 (0,0)) (by solve_by_elim only[BK101.out,qj,qk,qz])):gb101≠gb102));have NB102_101:=X.mk ((by rw[hg];exact Nat.ne_of_gt (blk_lt (g:=gb101) (o:=.cells #[.slice A0_0 l0_0.length c0_0,.slice A0_1 l0_1.length c0_1,.int .i64 a0_2,.int .i64 a0_3] 45 (0,0)) (by solve_by_elim only[BK101.out,qj,qk,qz])):gb102≠gb101));replace BK101:=X.mk (kj (g:=gb101) (o:=.cells #[.slice A0_0 l0_0.length c0_0,.slice A0_1 l0_1.length c0_1,.int .i64 a0_2,.int .i64 a0_3] 45 (0,0)) (by solve_by_elim only[BK101.out,qj,qk,qz]) hb);clear hb hbox hg;have hnb35:=NB101_102.out;have hnc35:=NB102_101.out;have hcz36_0:w34.cell? ⟨gb101,0,none⟩ = some (.slice A0_0 l0_0.length c0_0):=(I BK101.out 0).trans rfl;have hcz36_1:w34.cell? ⟨gb101,1,none⟩ = some (.slice A0_1 l0_1.length c0_1):=(I BK101.out 1).trans rfl;have hcz36_2:w34.cell? ⟨gb101,2,none⟩ = some (.int .i64 a0_2):=(I BK101.out 2).trans rfl;have hcz36_3:w34.cell? ⟨gb101,3,none⟩ = some (.int .i64 a0_3):=(I BK101.out 3).trans rfl;have hfz36_0:=J BK101.out 0;have hfz36_1:=J BK101.out 1;have hfz36_2:=J BK101.out 2;have hfz36_3:=J BK101.out 3;have hcz37_0:w34.cell? ⟨gb102,0,none⟩ = some (.slice A1_0 l1_0.length c1_0):=(I BK102.out 0).trans rfl;have hcz37_1:w34.cell? ⟨gb102,1,none⟩ = some (.slice A1_1 l1_1.length c1_1):=(I BK102.out 1).trans rfl;have hcz37_2:w34.cell? ⟨gb102,2,none⟩ = some (.int .i64 a1_2):=(I BK102.out 2).trans rfl;have hcz37_3:w34.cell? ⟨gb102,3,none⟩ = some (.int .i64 a1_3):=(I BK102.out 3).trans rfl;have hfz37_0:=J BK102.out 0;have hfz37_1:=J BK102.out 1;have hfz37_2:=J BK102.out 2;have hfz37_3:=J BK102.out 3)|((with_reducible refine zw (f:=53) rfl ?_);refine goesL_ (some 9) rfl rfl Try.func53 (by kernel_rfl) rfl #[.slice A0_0 l0_0.length c0_0,.slice A1_0 l1_0.length c1_0] rfl (by(try simp only[jq0,jq1,jq2]);first|done|rfl|(simp only[jq3,jq4];rfl)) ?_;(with_reducible refine(qzq.calls k _ _ l0_0 _ _ l1_0 true _ ?side1 ?side2 ?side3 ?side4 A3.out).mono ?_);(case side1=>solve_by_elim only[(Kd.C_below HR0_0.out HB.out),Kd.C_alloc,Kd.C_drewN,Kd.C_drew]);(case side2=>exact HC0_0.out);(case side3=>solve_by_elim only[(Kd.C_below HR1_0.out HB.out),Kd.C_alloc,Kd.C_drewN,Kd.C_drew]);(case side4=>exact HC1_0.out);rintro e w38 ⟨rfl,hb⟩;refine⟨_,rfl,?_⟩;replace BK101:=X.mk (kj (g:=gb101) (o:=.cells #[.slice A0_0 l0_0.length c0_0,.slice A0_1 l0_1.length c0_1,.int .i64 a0_2,.int .i64 a0_3] 45 (0,0)) (by solve_by_elim only[BK101.out,qj,qk,qz]) hb);replace BK102:=X.mk (kj (g:=gb102) (o:=.cells #[.slice A1_0 l1_0.length c1_0,.slice A1_1 l1_1.length c1_1,.int .i64 a1_2,.int .i64 a1_3] 45 (0,0)) (by solve_by_elim only[BK102.out,qj,qk,qz]) hb);replace HB:=X.mk (qw (by solve_by_elim (maxDepth:=20) only[HB.out,O,U,L,qq,GE101.out,qq,GE102.out]) hb);(try clear hb);have hcz39_0:w38.cell? ⟨gb101,0,none⟩ = some (.slice A0_0 l0_0.length c0_0):=(I BK101.out 0).trans rfl;have hcz39_1:w38.cell? ⟨gb101,1,none⟩ = some (.slice A0_1 l0_1.length c0_1):=(I BK101.out 1).trans rfl;have hcz39_2:w38.cell? ⟨gb101,2,none⟩ = some (.int .i64 a0_2):=(I BK101.out 2).trans rfl;have hcz39_3:w38.cell? ⟨gb101,3,none⟩ = some (.int .i64 a0_3):=(I BK101.out 3).trans rfl;have hfz39_0:=J BK101.out 0;have hfz39_1:=J BK101.out 1;have hfz39_2:=J BK101.out 2;have hfz39_3:=J BK101.out 3;have hcz40_0:w38.cell? ⟨gb102,0,none⟩ = some (.slice A1_0 l1_0.length c1_0):=(I BK102.out 0).trans rfl;have hcz40_1:w38.cell? ⟨gb102,1,none⟩ = some (.slice A1_1 l1_1.length c1_1):=(I BK102.out 1).trans rfl;have hcz40_2:w38.cell? ⟨gb102,2,none⟩ = some (.int .i64 a1_2):=(I BK102.out 2).trans rfl;have hcz40_3:w38.cell? ⟨gb102,3,none⟩ = some (.int .i64 a1_3):=(I BK102.out 3).trans rfl;have hfz40_0:=J BK102.out 0;have hfz40_1:=J BK102.out 1;have hfz40_2:=J BK102.out 2;have hfz40_3:=J BK102.out 3)|((with_reducible refine zw (f:=36) rfl ?_);refine goesL_ (some 15) rfl rfl Try.func36 (by kernel_rfl) rfl #[.slice A0_1 l0_1.length c0_1,.slice A1_1 l1_1.length c1_1] rfl (by(try simp only[jq0,jq1,jq2]);first|done|rfl|(simp only[jq3,jq4];rfl)) ?_;(with_reducible refine(qqw.calls k _ _ l0_1 _ _ l1_1 false _ ?side1 ?side2 ?side3 ?side4 A5.out).mono ?_);(case side1=>solve_by_elim only[(Kd.C_below HR0_1.out HB.out),Kd.C_alloc,Kd.C_drewN,Kd.C_drew]);(case side2=>exact HC0_1.out);(case side3=>solve_by_elim only[(Kd.C_below HR1_1.out HB.out),Kd.C_alloc,Kd.C_drewN,Kd.C_drew]);(case side4=>exact HC1_1.out);rintro e w' ⟨rfl,⟨nd,rfl⟩⟩;refine⟨_,rfl,?_⟩))
   go_ret
   exact⟨by first|rfl|(simp[*,zv,zk] <;> rfl),by repeat(first|(with_reducible first|exact HB.out|apply O|apply U|apply L|refine qq ?_ GE101.out|refine qq ?_ GE102.out)|exact HB.out)⟩
 ·replace c4:=jq9.mpr c4
  subst c4
  have H1:(some false)=some r:=by rw[if_neg (show ¬ (false=true) by decide)] at H;exact H
  clear H
  have H:=H1
  clear H1
  obtain rfl:=Option.some.inj H
  go_enter Try.func22,Try.ntmps22
  go_wp2_with (first|((with_reducible refine gate_dst (N:=2) rfl ?_);refine box_event ?hg (N:=2) ?hd (cs:=#[.slice A0_0 l0_0.length c0_0,.slice A0_1 l0_1.length c0_1,.int .i64 a0_2,.int .i64 a0_3]) (t:=45) ?hr ?_;(case hd=>rfl);(case hg=>rfl);(case hr=>first|(go_simp;done)|(go_simp;rfl));intro gb101 hg w41 hbox hb;have BK101:=X.mk (hbox);have GW101:=X.mk ((by rw[hg];exact(qx (by solve_by_elim only[HB.out,O,U,L])):w.heap.size≤gb101));have GE101:=X.mk ((by rw[hg];exact(qx (by solve_by_elim only[HB.out,O,U,L])):w.heap.size≤gb101));replace HB:=X.mk (qw (by solve_by_elim only[HB.out,O,U,L]) hb);clear hb hbox hg)|((with_reducible refine gate_dst (N:=3) rfl ?_);refine box_event ?hg (N:=3) ?hd (cs:=#[.slice A1_0 l1_0.length c1_0,.slice A1_1 l1_1.length c1_1,.int .i64 a1_2,.int .i64 a1_3]) (t:=45) ?hr ?_;(case hd=>rfl);(case hg=>rfl);(case hr=>first|(go_simp;done)|(go_simp;rfl));intro gb102 hg w42 hbox hb;have BK102:=X.mk (hbox);have GW102:=X.mk ((by rw[hg];exact(qx (by solve_by_elim (maxDepth:=20) only[HB.out,O,U,L,qq,GE101.out])):w.heap.size≤gb102));have GE102:=X.mk ((by rw[hg];exact(qx (by solve_by_elim (maxDepth:=20) only[HB.out,O,U,L,qq,GE101.out])):w.heap.size≤gb102));replace HB:=X.mk (qw (by solve_by_elim (maxDepth:=20) only[HB.out,O,U,L,qq,GE101.out]) hb);have NB101_102:=X.mk ((by rw[hg];exact Nat.ne_of_lt (blk_lt (g:=gb101) (o:=.cells #[.slice A0_0 l0_0.length c0_0,.slice A0_1 l0_1.length c0_1,.int .i64 a0_2,.int .i64 a0_3] 45 (0,0)) (by solve_by_elim only[BK101.out,qj,qk,qz])):gb101≠gb102));have NB102_101:=X.mk ((by rw[hg];exact Nat.ne_of_gt (blk_lt (g:=gb101) (o:=.cells #[.slice A0_0 l0_0.length c0_0,.slice A0_1 l0_1.length c0_1,.int .i64 a0_2,.int .i64 a0_3] 45 (0,0)) (by solve_by_elim only[BK101.out,qj,qk,qz])):gb102≠gb101));replace BK101:=X.mk (kj (g:=gb101) (o:=.cells #[.slice A0_0 l0_0.length c0_0,.slice A0_1 l0_1.length c0_1,.int .i64 a0_2,.int .i64 a0_3] 45 (0,0)) (by solve_by_elim only[BK101.out,qj,qk,qz]) hb);clear hb hbox hg;have hnb43:=NB101_102.out;have hnc43:=NB102_101.out;have hcz44_0:w42.cell? ⟨gb101,0,none⟩ = some (.slice A0_0 l0_0.length c0_0):=(I BK101.out 0).trans rfl;have hcz44_1:w42.cell? ⟨gb101,1,none⟩ = some (.slice A0_1 l0_1.length c0_1):=(I BK101.out 1).trans rfl;have hcz44_2:w42.cell? ⟨gb101,2,none⟩ = some (.int .i64 a0_2):=(I BK101.out 2).trans rfl;have hcz44_3:w42.cell? ⟨gb101,3,none⟩ = some (.int .i64 a0_3):=(I BK101.out 3).trans rfl;have hfz44_0:=J BK101.out 0;have hfz44_1:=J BK101.out 1;have hfz44_2:=J BK101.out 2;have hfz44_3:=J BK101.out 3;have hcz45_0:w42.cell? ⟨gb102,0,none⟩ = some (.slice A1_0 l1_0.length c1_0):=(I BK102.out 0).trans rfl;have hcz45_1:w42.cell? ⟨gb102,1,none⟩ = some (.slice A1_1 l1_1.length c1_1):=(I BK102.out 1).trans rfl;have hcz45_2:w42.cell? ⟨gb102,2,none⟩ = some (.int .i64 a1_2):=(I BK102.out 2).trans rfl;have hcz45_3:w42.cell? ⟨gb102,3,none⟩ = some (.int .i64 a1_3):=(I BK102.out 3).trans rfl;have hfz45_0:=J BK102.out 0;have hfz45_1:=J BK102.out 1;have hfz45_2:=J BK102.out 2;have hfz45_3:=J BK102.out 3)|((with_reducible refine zw (f:=53) rfl ?_);refine goesL_ (some 9) rfl rfl Try.func53 (by kernel_rfl) rfl #[.slice A0_0 l0_0.length c0_0,.slice A1_0 l1_0.length c1_0] rfl (by(try simp only[jq0,jq1,jq2]);first|done|rfl|(simp only[jq3,jq4];rfl)) ?_;(with_reducible refine(qzq.calls k _ _ l0_0 _ _ l1_0 false _ ?side1 ?side2 ?side3 ?side4 A3.out).mono ?_);(case side1=>solve_by_elim only[(Kd.C_below HR0_0.out HB.out),Kd.C_alloc,Kd.C_drewN,Kd.C_drew]);(case side2=>exact HC0_0.out);(case side3=>solve_by_elim only[(Kd.C_below HR1_0.out HB.out),Kd.C_alloc,Kd.C_drewN,Kd.C_drew]);(case side4=>exact HC1_0.out);rintro e w46 ⟨rfl,hb⟩;refine⟨_,rfl,?_⟩;replace BK101:=X.mk (kj (g:=gb101) (o:=.cells #[.slice A0_0 l0_0.length c0_0,.slice A0_1 l0_1.length c0_1,.int .i64 a0_2,.int .i64 a0_3] 45 (0,0)) (by solve_by_elim only[BK101.out,qj,qk,qz]) hb);replace BK102:=X.mk (kj (g:=gb102) (o:=.cells #[.slice A1_0 l1_0.length c1_0,.slice A1_1 l1_1.length c1_1,.int .i64 a1_2,.int .i64 a1_3] 45 (0,0)) (by solve_by_elim only[BK102.out,qj,qk,qz]) hb);replace HB:=X.mk (qw (by solve_by_elim (maxDepth:=20) only[HB.out,O,U,L,qq,GE101.out,qq,GE102.out]) hb);(try clear hb)))
  go_ret
  exact⟨by first|rfl|(simp[*,zv,zk] <;> rfl),by repeat(first|(with_reducible first|exact HB.out|apply O|apply U|apply L|refine qq ?_ GE101.out|refine qq ?_ GE102.out)|exact HB.out)⟩
def qzv.f (k:Nat) (l0_0:List (S96)) (l0_1:List Int) (a0_2:Int) (a0_3:Int) (a0_4:ByteArray) (a0_5:ByteArray) (a0_6:Bool) (a0_7:Bool) (a1:Int):Option (Int):=(qjj.f k l0_0 l0_1 a0_2 a0_3 a1).bind fun t102=>(if t102 < 0 then(some (-1)) else(if (wrap64 (t102 - (a0_4.size:Int))) < 0 then(some (-1)) else(if (wrap64 ((wrap64 (t102 - (a0_4.size:Int))) - (a0_5.size:Int))) < 0 then(some (-1)) else(some (wrap64 ((wrap64 (t102 - (a0_4.size:Int))) - (a0_5.size:Int)))))))
theorem qzv.calls (k:Nat) (A0_0:Option Addr) (c0_0:Nat) (l0_0:List (S96)) (A0_1:Option Addr) (c0_1:Nat) (l0_1:List Int) (a0_2:Int) (a0_3:Int) (a0_4:ByteArray) (a0_5:ByteArray) (a0_6:Bool) (a0_7:Bool) (a1:Int) (r:Int) (w:World) (hr0_0:Kd.C k96 w A0_0 l0_0.length l0_0) (hc0_0:l0_0.length≤c0_0) (hr0_1:Kd.C (Kd.int .u8) w A0_1 l0_1.length l0_1) (hc0_1:l0_1.length≤c0_1) (h:qzv.f k l0_0 l0_1 a0_2 a0_3 a0_4 a0_5 a0_6 a0_7 a1=some r) :
  Calls Try.prog 29 #[.agg #[.slice A0_0 l0_0.length c0_0,.slice A0_1 l0_1.length c0_1,.int .i64 a0_2,.int .i64 a0_3,.string a0_4,.string a0_5,.bool a0_6,.bool a0_7],.int .i64 a1] w fun e w'=>e=.returned (.int .i64 r)∧Below w.heap.size w w':=by
 have hu58:=Try.underlying58
 have hu40:=Try.underlying40
 have HR0_0:=X.mk hr0_0
 have HC0_0:=X.mk hc0_0
 clear hr0_0 hc0_0
 have HR0_1:=X.mk hr0_1
 have HC0_1:=X.mk hc0_1
 clear hr0_1 hc0_1
 have HB:=X.mk (Below.refl w.heap.size w)
 unfold qzv.f at h
 have H:=h
 clear h
 replace H:=jq8.mp H
 obtain⟨t102,A30,H⟩:=H
 try dsimp only at H
 have A3:=X.mk A30
 clear A30
 by_cases c4:t102 < 0
 ·rw[if_pos c4] at H
  have c4b0:decide (t102 < 0)=true:=decide_eq_true c4
  clear c4
  obtain rfl:=Option.some.inj H
  go_enter Try.func29,Try.ntmps29
  go_wp2_with (first|((with_reducible refine gate_dst (N:=2) rfl ?_);refine box_event ?hg (N:=2) ?hd (cs:=#[.slice A0_0 l0_0.length c0_0,.slice A0_1 l0_1.length c0_1,.int .i64 a0_2,.int .i64 a0_3,.string a0_4,.string a0_5,.bool a0_6,.bool a0_7]) (t:=58) ?hr ?_;(case hd=>rfl);(case hg=>rfl);(case hr=>first|(go_simp;done)|(go_simp;rfl));intro gb101 hg w5 hbox hb;have BK101:=X.mk (hbox);have GW101:=X.mk ((by rw[hg];exact(qx (by solve_by_elim only[HB.out,O,U,L])):w.heap.size≤gb101));have GE101:=X.mk ((by rw[hg];exact(qx (by solve_by_elim only[HB.out,O,U,L])):w.heap.size≤gb101));replace HB:=X.mk (qw (by solve_by_elim only[HB.out,O,U,L]) hb);clear hb hbox hg;have hcz6_0:w5.cell? ⟨gb101,0,none⟩ = some (.slice A0_0 l0_0.length c0_0):=(I BK101.out 0).trans rfl;have hcz6_1:w5.cell? ⟨gb101,1,none⟩ = some (.slice A0_1 l0_1.length c0_1):=(I BK101.out 1).trans rfl;have hcz6_2:w5.cell? ⟨gb101,2,none⟩ = some (.int .i64 a0_2):=(I BK101.out 2).trans rfl;have hcz6_3:w5.cell? ⟨gb101,3,none⟩ = some (.int .i64 a0_3):=(I BK101.out 3).trans rfl;have hcz6_4:w5.cell? ⟨gb101,4,none⟩ = some (.string a0_4):=(I BK101.out 4).trans rfl;have hcz6_5:w5.cell? ⟨gb101,5,none⟩ = some (.string a0_5):=(I BK101.out 5).trans rfl;have hcz6_6:w5.cell? ⟨gb101,6,none⟩ = some (.bool a0_6):=(I BK101.out 6).trans rfl;have hcz6_7:w5.cell? ⟨gb101,7,none⟩ = some (.bool a0_7):=(I BK101.out 7).trans rfl;have hfz6_0:=J BK101.out 0;have hfz6_1:=J BK101.out 1;have hfz6_2:=J BK101.out 2;have hfz6_3:=J BK101.out 3;have hfz6_4:=J BK101.out 4;have hfz6_5:=J BK101.out 5;have hfz6_6:=J BK101.out 6;have hfz6_7:=J BK101.out 7)|((with_reducible refine zw (f:=18) rfl ?_);refine goesL_ (some 8) rfl rfl Try.func18 (by kernel_rfl) rfl #[.agg #[.slice A0_0 l0_0.length c0_0,.slice A0_1 l0_1.length c0_1,.int .i64 a0_2,.int .i64 a0_3],.int .i64 a1] rfl (by(try simp only[jq0,jq1,jq2]);first|done|rfl|(simp only[jq3,jq4];rfl)) ?_;(with_reducible refine(qjj.calls k _ _ l0_0 _ _ l0_1 a0_2 a0_3 a1 t102 _ ?side1 ?side2 ?side3 ?side4 A3.out).mono ?_);(case side1=>solve_by_elim only[(Kd.C_below HR0_0.out HB.out),Kd.C_alloc,Kd.C_drewN,Kd.C_drew]);(case side2=>exact HC0_0.out);(case side3=>solve_by_elim only[(Kd.C_below HR0_1.out HB.out),Kd.C_alloc,Kd.C_drewN,Kd.C_drew]);(case side4=>exact HC0_1.out);rintro e w7 ⟨rfl,hb⟩;refine⟨_,rfl,?_⟩;replace BK101:=X.mk (kj (g:=gb101) (o:=.cells #[.slice A0_0 l0_0.length c0_0,.slice A0_1 l0_1.length c0_1,.int .i64 a0_2,.int .i64 a0_3,.string a0_4,.string a0_5,.bool a0_6,.bool a0_7] 58 (0,0)) (by solve_by_elim only[BK101.out,qj,qk,qz]) hb);replace HB:=X.mk (qw (by solve_by_elim (maxDepth:=20) only[HB.out,O,U,L,qq,GE101.out]) hb);(try clear hb)))
  go_ret
  exact⟨by first|rfl|(simp[*,zv,zk] <;> rfl),by repeat(first|(with_reducible first|exact HB.out|apply O|apply U|apply L|refine qq ?_ GE101.out)|exact HB.out)⟩
 ·rw[if_neg c4] at H
  have c4b0:decide (t102 < 0)=false:=decide_eq_false c4
  clear c4
  by_cases c8:(wrap64 (t102 - (a0_4.size:Int))) < 0
  ·rw[if_pos c8] at H
   have c8b0:decide ((wrap64 (t102 - (a0_4.size:Int))) < 0)=true:=decide_eq_true c8
   clear c8
   obtain rfl:=Option.some.inj H
   go_enter Try.func29,Try.ntmps29
   go_wp2_with (first|((with_reducible refine gate_dst (N:=2) rfl ?_);refine box_event ?hg (N:=2) ?hd (cs:=#[.slice A0_0 l0_0.length c0_0,.slice A0_1 l0_1.length c0_1,.int .i64 a0_2,.int .i64 a0_3,.string a0_4,.string a0_5,.bool a0_6,.bool a0_7]) (t:=58) ?hr ?_;(case hd=>rfl);(case hg=>rfl);(case hr=>first|(go_simp;done)|(go_simp;rfl));intro gb101 hg w9 hbox hb;have BK101:=X.mk (hbox);have GW101:=X.mk ((by rw[hg];exact(qx (by solve_by_elim only[HB.out,O,U,L])):w.heap.size≤gb101));have GE101:=X.mk ((by rw[hg];exact(qx (by solve_by_elim only[HB.out,O,U,L])):w.heap.size≤gb101));replace HB:=X.mk (qw (by solve_by_elim only[HB.out,O,U,L]) hb);clear hb hbox hg;have hcz10_0:w9.cell? ⟨gb101,0,none⟩ = some (.slice A0_0 l0_0.length c0_0):=(I BK101.out 0).trans rfl;have hcz10_1:w9.cell? ⟨gb101,1,none⟩ = some (.slice A0_1 l0_1.length c0_1):=(I BK101.out 1).trans rfl;have hcz10_2:w9.cell? ⟨gb101,2,none⟩ = some (.int .i64 a0_2):=(I BK101.out 2).trans rfl;have hcz10_3:w9.cell? ⟨gb101,3,none⟩ = some (.int .i64 a0_3):=(I BK101.out 3).trans rfl;have hcz10_4:w9.cell? ⟨gb101,4,none⟩ = some (.string a0_4):=(I BK101.out 4).trans rfl;have hcz10_5:w9.cell? ⟨gb101,5,none⟩ = some (.string a0_5):=(I BK101.out 5).trans rfl;have hcz10_6:w9.cell? ⟨gb101,6,none⟩ = some (.bool a0_6):=(I BK101.out 6).trans rfl;have hcz10_7:w9.cell? ⟨gb101,7,none⟩ = some (.bool a0_7):=(I BK101.out 7).trans rfl;have hfz10_0:=J BK101.out 0;have hfz10_1:=J BK101.out 1;have hfz10_2:=J BK101.out 2;have hfz10_3:=J BK101.out 3;have hfz10_4:=J BK101.out 4;have hfz10_5:=J BK101.out 5;have hfz10_6:=J BK101.out 6;have hfz10_7:=J BK101.out 7)|((with_reducible refine zw (f:=18) rfl ?_);refine goesL_ (some 8) rfl rfl Try.func18 (by kernel_rfl) rfl #[.agg #[.slice A0_0 l0_0.length c0_0,.slice A0_1 l0_1.length c0_1,.int .i64 a0_2,.int .i64 a0_3],.int .i64 a1] rfl (by(try simp only[jq0,jq1,jq2]);first|done|rfl|(simp only[jq3,jq4];rfl)) ?_;(with_reducible refine(qjj.calls k _ _ l0_0 _ _ l0_1 a0_2 a0_3 a1 t102 _ ?side1 ?side2 ?side3 ?side4 A3.out).mono ?_);(case side1=>solve_by_elim only[(Kd.C_below HR0_0.out HB.out),Kd.C_alloc,Kd.C_drewN,Kd.C_drew]);(case side2=>exact HC0_0.out);(case side3=>solve_by_elim only[(Kd.C_below HR0_1.out HB.out),Kd.C_alloc,Kd.C_drewN,Kd.C_drew]);(case side4=>exact HC0_1.out);rintro e w11 ⟨rfl,hb⟩;refine⟨_,rfl,?_⟩;replace BK101:=X.mk (kj (g:=gb101) (o:=.cells #[.slice A0_0 l0_0.length c0_0,.slice A0_1 l0_1.length c0_1,.int .i64 a0_2,.int .i64 a0_3,.string a0_4,.string a0_5,.bool a0_6,.bool a0_7] 58 (0,0)) (by solve_by_elim only[BK101.out,qj,qk,qz]) hb);replace HB:=X.mk (qw (by solve_by_elim (maxDepth:=20) only[HB.out,O,U,L,qq,GE101.out]) hb);(try clear hb);have hcz12_0:w11.cell? ⟨gb101,0,none⟩ = some (.slice A0_0 l0_0.length c0_0):=(I BK101.out 0).trans rfl;have hcz12_1:w11.cell? ⟨gb101,1,none⟩ = some (.slice A0_1 l0_1.length c0_1):=(I BK101.out 1).trans rfl;have hcz12_2:w11.cell? ⟨gb101,2,none⟩ = some (.int .i64 a0_2):=(I BK101.out 2).trans rfl;have hcz12_3:w11.cell? ⟨gb101,3,none⟩ = some (.int .i64 a0_3):=(I BK101.out 3).trans rfl;have hcz12_4:w11.cell? ⟨gb101,4,none⟩ = some (.string a0_4):=(I BK101.out 4).trans rfl;have hcz12_5:w11.cell? ⟨gb101,5,none⟩ = some (.string a0_5):=(I BK101.out 5).trans rfl;have hcz12_6:w11.cell? ⟨gb101,6,none⟩ = some (.bool a0_6):=(I BK101.out 6).trans rfl;have hcz12_7:w11.cell? ⟨gb101,7,none⟩ = some (.bool a0_7):=(I BK101.out 7).trans rfl;have hfz12_0:=J BK101.out 0;have hfz12_1:=J BK101.out 1;have hfz12_2:=J BK101.out 2;have hfz12_3:=J BK101.out 3;have hfz12_4:=J BK101.out 4;have hfz12_5:=J BK101.out 5;have hfz12_6:=J BK101.out 6;have hfz12_7:=J BK101.out 7))
   go_ret
   exact⟨by first|rfl|(simp[*,zv,zk] <;> rfl),by repeat(first|(with_reducible first|exact HB.out|apply O|apply U|apply L|refine qq ?_ GE101.out)|exact HB.out)⟩
  ·rw[if_neg c8] at H
   have c8b0:decide ((wrap64 (t102 - (a0_4.size:Int))) < 0)=false:=decide_eq_false c8
   clear c8
   by_cases c13:(wrap64 ((wrap64 (t102 - (a0_4.size:Int))) - (a0_5.size:Int))) < 0
   ·rw[if_pos c13] at H
    have c13b0:decide ((wrap64 ((wrap64 (t102 - (a0_4.size:Int))) - (a0_5.size:Int))) < 0)=true:=decide_eq_true c13
    clear c13
    obtain rfl:=Option.some.inj H
    go_enter Try.func29,Try.ntmps29
    go_wp2_with (first|((with_reducible refine gate_dst (N:=2) rfl ?_);refine box_event ?hg (N:=2) ?hd (cs:=#[.slice A0_0 l0_0.length c0_0,.slice A0_1 l0_1.length c0_1,.int .i64 a0_2,.int .i64 a0_3,.string a0_4,.string a0_5,.bool a0_6,.bool a0_7]) (t:=58) ?hr ?_;(case hd=>rfl);(case hg=>rfl);(case hr=>first|(go_simp;done)|(go_simp;rfl));intro gb101 hg w14 hbox hb;have BK101:=X.mk (hbox);have GW101:=X.mk ((by rw[hg];exact(qx (by solve_by_elim only[HB.out,O,U,L])):w.heap.size≤gb101));have GE101:=X.mk ((by rw[hg];exact(qx (by solve_by_elim only[HB.out,O,U,L])):w.heap.size≤gb101));replace HB:=X.mk (qw (by solve_by_elim only[HB.out,O,U,L]) hb);clear hb hbox hg;have hcz15_0:w14.cell? ⟨gb101,0,none⟩ = some (.slice A0_0 l0_0.length c0_0):=(I BK101.out 0).trans rfl;have hcz15_1:w14.cell? ⟨gb101,1,none⟩ = some (.slice A0_1 l0_1.length c0_1):=(I BK101.out 1).trans rfl;have hcz15_2:w14.cell? ⟨gb101,2,none⟩ = some (.int .i64 a0_2):=(I BK101.out 2).trans rfl;have hcz15_3:w14.cell? ⟨gb101,3,none⟩ = some (.int .i64 a0_3):=(I BK101.out 3).trans rfl;have hcz15_4:w14.cell? ⟨gb101,4,none⟩ = some (.string a0_4):=(I BK101.out 4).trans rfl;have hcz15_5:w14.cell? ⟨gb101,5,none⟩ = some (.string a0_5):=(I BK101.out 5).trans rfl;have hcz15_6:w14.cell? ⟨gb101,6,none⟩ = some (.bool a0_6):=(I BK101.out 6).trans rfl;have hcz15_7:w14.cell? ⟨gb101,7,none⟩ = some (.bool a0_7):=(I BK101.out 7).trans rfl;have hfz15_0:=J BK101.out 0;have hfz15_1:=J BK101.out 1;have hfz15_2:=J BK101.out 2;have hfz15_3:=J BK101.out 3;have hfz15_4:=J BK101.out 4;have hfz15_5:=J BK101.out 5;have hfz15_6:=J BK101.out 6;have hfz15_7:=J BK101.out 7)|((with_reducible refine zw (f:=18) rfl ?_);refine goesL_ (some 8) rfl rfl Try.func18 (by kernel_rfl) rfl #[.agg #[.slice A0_0 l0_0.length c0_0,.slice A0_1 l0_1.length c0_1,.int .i64 a0_2,.int .i64 a0_3],.int .i64 a1] rfl (by(try simp only[jq0,jq1,jq2]);first|done|rfl|(simp only[jq3,jq4];rfl)) ?_;(with_reducible refine(qjj.calls k _ _ l0_0 _ _ l0_1 a0_2 a0_3 a1 t102 _ ?side1 ?side2 ?side3 ?side4 A3.out).mono ?_);(case side1=>solve_by_elim only[(Kd.C_below HR0_0.out HB.out),Kd.C_alloc,Kd.C_drewN,Kd.C_drew]);(case side2=>exact HC0_0.out);(case side3=>solve_by_elim only[(Kd.C_below HR0_1.out HB.out),Kd.C_alloc,Kd.C_drewN,Kd.C_drew]);(case side4=>exact HC0_1.out);rintro e w16 ⟨rfl,hb⟩;refine⟨_,rfl,?_⟩;replace BK101:=X.mk (kj (g:=gb101) (o:=.cells #[.slice A0_0 l0_0.length c0_0,.slice A0_1 l0_1.length c0_1,.int .i64 a0_2,.int .i64 a0_3,.string a0_4,.string a0_5,.bool a0_6,.bool a0_7] 58 (0,0)) (by solve_by_elim only[BK101.out,qj,qk,qz]) hb);replace HB:=X.mk (qw (by solve_by_elim (maxDepth:=20) only[HB.out,O,U,L,qq,GE101.out]) hb);(try clear hb);have hcz17_0:w16.cell? ⟨gb101,0,none⟩ = some (.slice A0_0 l0_0.length c0_0):=(I BK101.out 0).trans rfl;have hcz17_1:w16.cell? ⟨gb101,1,none⟩ = some (.slice A0_1 l0_1.length c0_1):=(I BK101.out 1).trans rfl;have hcz17_2:w16.cell? ⟨gb101,2,none⟩ = some (.int .i64 a0_2):=(I BK101.out 2).trans rfl;have hcz17_3:w16.cell? ⟨gb101,3,none⟩ = some (.int .i64 a0_3):=(I BK101.out 3).trans rfl;have hcz17_4:w16.cell? ⟨gb101,4,none⟩ = some (.string a0_4):=(I BK101.out 4).trans rfl;have hcz17_5:w16.cell? ⟨gb101,5,none⟩ = some (.string a0_5):=(I BK101.out 5).trans rfl;have hcz17_6:w16.cell? ⟨gb101,6,none⟩ = some (.bool a0_6):=(I BK101.out 6).trans rfl;have hcz17_7:w16.cell? ⟨gb101,7,none⟩ = some (.bool a0_7):=(I BK101.out 7).trans rfl;have hfz17_0:=J BK101.out 0;have hfz17_1:=J BK101.out 1;have hfz17_2:=J BK101.out 2;have hfz17_3:=J BK101.out 3;have hfz17_4:=J BK101.out 4;have hfz17_5:=J BK101.out 5;have hfz17_6:=J BK101.out 6;have hfz17_7:=J BK101.out 7))
    go_ret
    exact⟨by first|rfl|(simp[*,zv,zk] <;> rfl),by repeat(first|(with_reducible first|exact HB.out|apply O|apply U|apply L|refine qq ?_ GE101.out)|exact HB.out)⟩
   ·rw[if_neg c13] at H
    have c13b0:decide ((wrap64 ((wrap64 (t102 - (a0_4.size:Int))) - (a0_5.size:Int))) < 0)=false:=decide_eq_false c13
    clear c13
    obtain rfl:=Option.some.inj H
    go_enter Try.func29,Try.ntmps29
    go_wp2_with (first|((with_reducible refine gate_dst (N:=2) rfl ?_);refine box_event ?hg (N:=2) ?hd (cs:=#[.slice A0_0 l0_0.length c0_0,.slice A0_1 l0_1.length c0_1,.int .i64 a0_2,.int .i64 a0_3,.string a0_4,.string a0_5,.bool a0_6,.bool a0_7]) (t:=58) ?hr ?_;(case hd=>rfl);(case hg=>rfl);(case hr=>first|(go_simp;done)|(go_simp;rfl));intro gb101 hg w18 hbox hb;have BK101:=X.mk (hbox);have GW101:=X.mk ((by rw[hg];exact(qx (by solve_by_elim only[HB.out,O,U,L])):w.heap.size≤gb101));have GE101:=X.mk ((by rw[hg];exact(qx (by solve_by_elim only[HB.out,O,U,L])):w.heap.size≤gb101));replace HB:=X.mk (qw (by solve_by_elim only[HB.out,O,U,L]) hb);clear hb hbox hg;have hcz19_0:w18.cell? ⟨gb101,0,none⟩ = some (.slice A0_0 l0_0.length c0_0):=(I BK101.out 0).trans rfl;have hcz19_1:w18.cell? ⟨gb101,1,none⟩ = some (.slice A0_1 l0_1.length c0_1):=(I BK101.out 1).trans rfl;have hcz19_2:w18.cell? ⟨gb101,2,none⟩ = some (.int .i64 a0_2):=(I BK101.out 2).trans rfl;have hcz19_3:w18.cell? ⟨gb101,3,none⟩ = some (.int .i64 a0_3):=(I BK101.out 3).trans rfl;have hcz19_4:w18.cell? ⟨gb101,4,none⟩ = some (.string a0_4):=(I BK101.out 4).trans rfl;have hcz19_5:w18.cell? ⟨gb101,5,none⟩ = some (.string a0_5):=(I BK101.out 5).trans rfl;have hcz19_6:w18.cell? ⟨gb101,6,none⟩ = some (.bool a0_6):=(I BK101.out 6).trans rfl;have hcz19_7:w18.cell? ⟨gb101,7,none⟩ = some (.bool a0_7):=(I BK101.out 7).trans rfl;have hfz19_0:=J BK101.out 0;have hfz19_1:=J BK101.out 1;have hfz19_2:=J BK101.out 2;have hfz19_3:=J BK101.out 3;have hfz19_4:=J BK101.out 4;have hfz19_5:=J BK101.out 5;have hfz19_6:=J BK101.out 6;have hfz19_7:=J BK101.out 7)|((with_reducible refine zw (f:=18) rfl ?_);refine goesL_ (some 8) rfl rfl Try.func18 (by kernel_rfl) rfl #[.agg #[.slice A0_0 l0_0.length c0_0,.slice A0_1 l0_1.length c0_1,.int .i64 a0_2,.int .i64 a0_3],.int .i64 a1] rfl (by(try simp only[jq0,jq1,jq2]);first|done|rfl|(simp only[jq3,jq4];rfl)) ?_;(with_reducible refine(qjj.calls k _ _ l0_0 _ _ l0_1 a0_2 a0_3 a1 t102 _ ?side1 ?side2 ?side3 ?side4 A3.out).mono ?_);(case side1=>solve_by_elim only[(Kd.C_below HR0_0.out HB.out),Kd.C_alloc,Kd.C_drewN,Kd.C_drew]);(case side2=>exact HC0_0.out);(case side3=>solve_by_elim only[(Kd.C_below HR0_1.out HB.out),Kd.C_alloc,Kd.C_drewN,Kd.C_drew]);(case side4=>exact HC0_1.out);rintro e w20 ⟨rfl,hb⟩;refine⟨_,rfl,?_⟩;replace BK101:=X.mk (kj (g:=gb101) (o:=.cells #[.slice A0_0 l0_0.length c0_0,.slice A0_1 l0_1.length c0_1,.int .i64 a0_2,.int .i64 a0_3,.string a0_4,.string a0_5,.bool a0_6,.bool a0_7] 58 (0,0)) (by solve_by_elim only[BK101.out,qj,qk,qz]) hb);replace HB:=X.mk (qw (by solve_by_elim (maxDepth:=20) only[HB.out,O,U,L,qq,GE101.out]) hb);(try clear hb);have hcz21_0:w20.cell? ⟨gb101,0,none⟩ = some (.slice A0_0 l0_0.length c0_0):=(I BK101.out 0).trans rfl;have hcz21_1:w20.cell? ⟨gb101,1,none⟩ = some (.slice A0_1 l0_1.length c0_1):=(I BK101.out 1).trans rfl;have hcz21_2:w20.cell? ⟨gb101,2,none⟩ = some (.int .i64 a0_2):=(I BK101.out 2).trans rfl;have hcz21_3:w20.cell? ⟨gb101,3,none⟩ = some (.int .i64 a0_3):=(I BK101.out 3).trans rfl;have hcz21_4:w20.cell? ⟨gb101,4,none⟩ = some (.string a0_4):=(I BK101.out 4).trans rfl;have hcz21_5:w20.cell? ⟨gb101,5,none⟩ = some (.string a0_5):=(I BK101.out 5).trans rfl;have hcz21_6:w20.cell? ⟨gb101,6,none⟩ = some (.bool a0_6):=(I BK101.out 6).trans rfl;have hcz21_7:w20.cell? ⟨gb101,7,none⟩ = some (.bool a0_7):=(I BK101.out 7).trans rfl;have hfz21_0:=J BK101.out 0;have hfz21_1:=J BK101.out 1;have hfz21_2:=J BK101.out 2;have hfz21_3:=J BK101.out 3;have hfz21_4:=J BK101.out 4;have hfz21_5:=J BK101.out 5;have hfz21_6:=J BK101.out 6;have hfz21_7:=J BK101.out 7))
    go_ret
    exact⟨by first|rfl|(simp[*,zv,zk] <;> rfl),by repeat(first|(with_reducible first|exact HB.out|apply O|apply U|apply L|refine qq ?_ GE101.out)|exact HB.out)⟩
def qjv.f (k:Nat) (l0_0:List (S96)) (l0_1:List Int) (a0_2:Int) (a0_3:Int) (a0_4:ByteArray) (a0_5:ByteArray) (a0_6:Bool) (a0_7:Bool):Option ((List (S77)) × List Int × Int × Int × ByteArray × ByteArray × Bool × Bool):=(qkj.f k l0_0 l0_1 a0_2 a0_3).bind fun bt104=>(some (bt104.1,bt104.2.1,bt104.2.2.1,bt104.2.2.2,a0_4,a0_5,a0_6,a0_7))
theorem qjv.calls (k:Nat) (A0_0:Option Addr) (c0_0:Nat) (l0_0:List (S96)) (A0_1:Option Addr) (c0_1:Nat) (l0_1:List Int) (a0_2:Int) (a0_3:Int) (a0_4:ByteArray) (a0_5:ByteArray) (a0_6:Bool) (a0_7:Bool) (r1:List (S77)) (r2:List Int) (r3:Int) (r4:Int) (r5:ByteArray) (r6:ByteArray) (r7:Bool) (r8:Bool) (w:World) (hr0_0:Kd.C k96 w A0_0 l0_0.length l0_0) (hc0_0:l0_0.length≤c0_0) (hr0_1:Kd.C (Kd.int .u8) w A0_1 l0_1.length l0_1) (hc0_1:l0_1.length≤c0_1) (h:qjv.f k l0_0 l0_1 a0_2 a0_3 a0_4 a0_5 a0_6 a0_7=some (r1,r2,r3,r4,r5,r6,r7,r8)) :
  Calls Try.prog 31 #[.agg #[.slice A0_0 l0_0.length c0_0,.slice A0_1 l0_1.length c0_1,.int .i64 a0_2,.int .i64 a0_3,.string a0_4,.string a0_5,.bool a0_6,.bool a0_7]] w fun e w'=>∃ v0_ v1_:Value,e=.returned (.agg #[v0_,v1_,.int .i64 r3,.int .i64 r4,.string r5,.string r6,.bool r7,.bool r8])∧Kd.S k77 77 w' w.heap.size (fun k_=>some k_≠(v1_:Value).ownBlock) v0_ r1∧Kd.R (Kd.int .u8) 5 w' w.heap.size (fun _=>True) v1_ r2∧Below w.heap.size w w':=by
 have hu58:=Try.underlying58
 have hu62:=Try.underlying62
 have hu40:=Try.underlying40
 have hu45:=Try.underlying45
 have HR0_0:=X.mk hr0_0
 have HC0_0:=X.mk hc0_0
 clear hr0_0 hc0_0
 have HR0_1:=X.mk hr0_1
 have HC0_1:=X.mk hc0_1
 clear hr0_1 hc0_1
 have HB:=X.mk (Below.refl w.heap.size w)
 unfold qjv.f at h
 have H:=h
 clear h
 replace H:=jq8.mp H
 obtain⟨⟨t104,t107,t110,t111⟩,A20,H⟩:=H
 try dsimp only at H
 have A2:=X.mk A20
 clear A20
 simp only[Option.some.injEq,Prod.mk.injEq] at H
 obtain⟨rfl,rfl,rfl,rfl,rfl,rfl,rfl,rfl⟩:=H
 go_enter Try.func31,Try.ntmps31
 go_wp2_with (first|((with_reducible refine gate_dst (N:=1) rfl ?_);refine box_event ?hg (N:=1) ?hd (cs:=#[.slice A0_0 l0_0.length c0_0,.slice A0_1 l0_1.length c0_1,.int .i64 a0_2,.int .i64 a0_3,.string a0_4,.string a0_5,.bool a0_6,.bool a0_7]) (t:=58) ?hr ?_;(case hd=>rfl);(case hg=>rfl);(case hr=>first|(go_simp;done)|(go_simp;rfl));intro gb101 hg w3 hbox hb;have BK101:=X.mk (hbox);have GW101:=X.mk ((by rw[hg];exact(qx (by solve_by_elim only[HB.out,O,U,L])):w.heap.size≤gb101));have GE101:=X.mk ((by rw[hg];exact(qx (by solve_by_elim only[HB.out,O,U,L])):w.heap.size≤gb101));replace HB:=X.mk (qw (by solve_by_elim only[HB.out,O,U,L]) hb);clear hb hbox hg)|((with_reducible refine gate_dst (N:=2) rfl ?_);refine box_event ?hg (N:=2) ?hd (cs:=#[.slice none 0 0,.slice none 0 0,.int .i64 0,.int .i64 0,.string (⟨#[]⟩ : ByteArray),.string (⟨#[]⟩ : ByteArray),.bool false,.bool false]) (t:=62) ?hr ?_;(case hd=>rfl);(case hg=>rfl);(case hr=>first|(go_simp;done)|(go_simp;rfl));intro gb102 hg w4 hbox hb;have BK102:=X.mk (hbox);have GW102:=X.mk ((by rw[hg];exact(qx (by solve_by_elim (maxDepth:=20) only[HB.out,O,U,L,qq,GE101.out])):w.heap.size≤gb102));have GE102:=X.mk ((by rw[hg];exact(qx (by solve_by_elim (maxDepth:=20) only[HB.out,O,U,L,qq,GE101.out])):w.heap.size≤gb102));replace HB:=X.mk (qw (by solve_by_elim (maxDepth:=20) only[HB.out,O,U,L,qq,GE101.out]) hb);have NB101_102:=X.mk ((by rw[hg];exact Nat.ne_of_lt (blk_lt (g:=gb101) (o:=.cells #[.slice A0_0 l0_0.length c0_0,.slice A0_1 l0_1.length c0_1,.int .i64 a0_2,.int .i64 a0_3,.string a0_4,.string a0_5,.bool a0_6,.bool a0_7] 58 (0,0)) (by solve_by_elim only[BK101.out,qj,qk,qz])):gb101≠gb102));have NB102_101:=X.mk ((by rw[hg];exact Nat.ne_of_gt (blk_lt (g:=gb101) (o:=.cells #[.slice A0_0 l0_0.length c0_0,.slice A0_1 l0_1.length c0_1,.int .i64 a0_2,.int .i64 a0_3,.string a0_4,.string a0_5,.bool a0_6,.bool a0_7] 58 (0,0)) (by solve_by_elim only[BK101.out,qj,qk,qz])):gb102≠gb101));replace BK101:=X.mk (kj (g:=gb101) (o:=.cells #[.slice A0_0 l0_0.length c0_0,.slice A0_1 l0_1.length c0_1,.int .i64 a0_2,.int .i64 a0_3,.string a0_4,.string a0_5,.bool a0_6,.bool a0_7] 58 (0,0)) (by solve_by_elim only[BK101.out,qj,qk,qz]) hb);clear hb hbox hg)|((with_reducible refine gate_dst (N:=3) rfl ?_);refine box_event ?hg (N:=3) ?hd (cs:=#[.slice none 0 0,.slice none 0 0,.int .i64 0,.int .i64 0,.string (⟨#[]⟩ : ByteArray),.string (⟨#[]⟩ : ByteArray),.bool false,.bool false]) (t:=62) ?hr ?_;(case hd=>rfl);(case hg=>rfl);(case hr=>first|(go_simp;done)|(go_simp;rfl));intro gb103 hg w5 hbox hb;have BK103:=X.mk (hbox);have GW103:=X.mk ((by rw[hg];exact(qx (by solve_by_elim (maxDepth:=20) only[HB.out,O,U,L,qq,GE101.out,qq,GE102.out])):w.heap.size≤gb103));have GE103:=X.mk ((by rw[hg];exact(qx (by solve_by_elim (maxDepth:=20) only[HB.out,O,U,L,qq,GE101.out,qq,GE102.out])):w.heap.size≤gb103));replace HB:=X.mk (qw (by solve_by_elim (maxDepth:=20) only[HB.out,O,U,L,qq,GE101.out,qq,GE102.out]) hb);have NB101_103:=X.mk ((by rw[hg];exact Nat.ne_of_lt (blk_lt (g:=gb101) (o:=.cells #[.slice A0_0 l0_0.length c0_0,.slice A0_1 l0_1.length c0_1,.int .i64 a0_2,.int .i64 a0_3,.string a0_4,.string a0_5,.bool a0_6,.bool a0_7] 58 (0,0)) (by solve_by_elim only[BK101.out,qj,qk,qz])):gb101≠gb103));have NB103_101:=X.mk ((by rw[hg];exact Nat.ne_of_gt (blk_lt (g:=gb101) (o:=.cells #[.slice A0_0 l0_0.length c0_0,.slice A0_1 l0_1.length c0_1,.int .i64 a0_2,.int .i64 a0_3,.string a0_4,.string a0_5,.bool a0_6,.bool a0_7] 58 (0,0)) (by solve_by_elim only[BK101.out,qj,qk,qz])):gb103≠gb101));replace BK101:=X.mk (kj (g:=gb101) (o:=.cells #[.slice A0_0 l0_0.length c0_0,.slice A0_1 l0_1.length c0_1,.int .i64 a0_2,.int .i64 a0_3,.string a0_4,.string a0_5,.bool a0_6,.bool a0_7] 58 (0,0)) (by solve_by_elim only[BK101.out,qj,qk,qz]) hb);have NB102_103:=X.mk ((by rw[hg];exact Nat.ne_of_lt (blk_lt (g:=gb102) (o:=.cells #[.slice none 0 0,.slice none 0 0,.int .i64 0,.int .i64 0,.string (⟨#[]⟩ : ByteArray),.string (⟨#[]⟩ : ByteArray),.bool false,.bool false] 62 (0,0)) (by solve_by_elim only[BK102.out,qj,qk,qz])):gb102≠gb103));have NB103_102:=X.mk ((by rw[hg];exact Nat.ne_of_gt (blk_lt (g:=gb102) (o:=.cells #[.slice none 0 0,.slice none 0 0,.int .i64 0,.int .i64 0,.string (⟨#[]⟩ : ByteArray),.string (⟨#[]⟩ : ByteArray),.bool false,.bool false] 62 (0,0)) (by solve_by_elim only[BK102.out,qj,qk,qz])):gb103≠gb102));replace BK102:=X.mk (kj (g:=gb102) (o:=.cells #[.slice none 0 0,.slice none 0 0,.int .i64 0,.int .i64 0,.string (⟨#[]⟩ : ByteArray),.string (⟨#[]⟩ : ByteArray),.bool false,.bool false] 62 (0,0)) (by solve_by_elim only[BK102.out,qj,qk,qz]) hb);clear hb hbox hg;have hnb6:=NB101_102.out;have hnc6:=NB102_101.out;have hnb7:=NB101_103.out;have hnc7:=NB103_101.out;have hcz8_0:w5.cell? ⟨gb101,0,none⟩ = some (.slice A0_0 l0_0.length c0_0):=(I BK101.out 0).trans rfl;have hcz8_1:w5.cell? ⟨gb101,1,none⟩ = some (.slice A0_1 l0_1.length c0_1):=(I BK101.out 1).trans rfl;have hcz8_2:w5.cell? ⟨gb101,2,none⟩ = some (.int .i64 a0_2):=(I BK101.out 2).trans rfl;have hcz8_3:w5.cell? ⟨gb101,3,none⟩ = some (.int .i64 a0_3):=(I BK101.out 3).trans rfl;have hcz8_4:w5.cell? ⟨gb101,4,none⟩ = some (.string a0_4):=(I BK101.out 4).trans rfl;have hcz8_5:w5.cell? ⟨gb101,5,none⟩ = some (.string a0_5):=(I BK101.out 5).trans rfl;have hcz8_6:w5.cell? ⟨gb101,6,none⟩ = some (.bool a0_6):=(I BK101.out 6).trans rfl;have hcz8_7:w5.cell? ⟨gb101,7,none⟩ = some (.bool a0_7):=(I BK101.out 7).trans rfl;have hfz8_0:=J BK101.out 0;have hfz8_1:=J BK101.out 1;have hfz8_2:=J BK101.out 2;have hfz8_3:=J BK101.out 3;have hfz8_4:=J BK101.out 4;have hfz8_5:=J BK101.out 5;have hfz8_6:=J BK101.out 6;have hfz8_7:=J BK101.out 7)|((with_reducible refine zw (f:=20) rfl ?_);refine goesL_ (some 6) rfl rfl Try.func20 (by kernel_rfl) rfl #[.agg #[.slice A0_0 l0_0.length c0_0,.slice A0_1 l0_1.length c0_1,.int .i64 a0_2,.int .i64 a0_3]] rfl (by(try simp only[jq0,jq1,jq2]);first|done|rfl|(simp only[jq3,jq4];rfl)) ?_;(with_reducible refine(qkj.calls k _ _ l0_0 _ _ l0_1 a0_2 a0_3 t104 t107 t110 t111 _ ?side1 ?side2 ?side3 ?side4 A2.out).mono ?_);(case side1=>solve_by_elim only[(Kd.C_below HR0_0.out HB.out),Kd.C_alloc,Kd.C_drewN,Kd.C_drew]);(case side2=>exact HC0_0.out);(case side3=>solve_by_elim only[(Kd.C_below HR0_1.out HB.out),Kd.C_alloc,Kd.C_drewN,Kd.C_drew]);(case side4=>exact HC0_1.out);rintro e w9 ⟨v105,v108,rfl,ho0,ho1,hb⟩;refine⟨_,rfl,?_⟩;have HO106:=X.mk (Kd.S_lower ho0 (qx (by solve_by_elim (maxDepth:=20) only[HB.out,O,U,L,qq,GE101.out,qq,GE102.out,qq,GE103.out])));have HO109:=X.mk (Kd.R_lower ho1 (qx (by solve_by_elim (maxDepth:=20) only[HB.out,O,U,L,qq,GE101.out,qq,GE102.out,qq,GE103.out])));replace BK101:=X.mk (kj (g:=gb101) (o:=.cells #[.slice A0_0 l0_0.length c0_0,.slice A0_1 l0_1.length c0_1,.int .i64 a0_2,.int .i64 a0_3,.string a0_4,.string a0_5,.bool a0_6,.bool a0_7] 58 (0,0)) (by solve_by_elim only[BK101.out,qj,qk,qz]) hb);replace BK102:=X.mk (kj (g:=gb102) (o:=.cells #[.slice none 0 0,.slice none 0 0,.int .i64 0,.int .i64 0,.string (⟨#[]⟩ : ByteArray),.string (⟨#[]⟩ : ByteArray),.bool false,.bool false] 62 (0,0)) (by solve_by_elim only[BK102.out,qj,qk,qz]) hb);replace BK103:=X.mk (kj (g:=gb103) (o:=.cells #[.slice none 0 0,.slice none 0 0,.int .i64 0,.int .i64 0,.string (⟨#[]⟩ : ByteArray),.string (⟨#[]⟩ : ByteArray),.bool false,.bool false] 62 (0,0)) (by solve_by_elim only[BK103.out,qj,qk,qz]) hb);replace HB:=X.mk (qw (by solve_by_elim (maxDepth:=20) only[HB.out,O,U,L,qq,GE101.out,qq,GE102.out,qq,GE103.out]) hb);(try clear hb ho0 ho1);obtain⟨Ao10,co10,eo10⟩:=Kd.S_slice HO106.out;subst eo10;have hnb11:=NB103_102.out;have hnc11:=NB102_103.out;have hcz12_0:w9.cell? ⟨gb103,0,none⟩ = some (.slice none 0 0):=(I BK103.out 0).trans rfl;have hcz12_1:w9.cell? ⟨gb103,1,none⟩ = some (.slice none 0 0):=(I BK103.out 1).trans rfl;have hcz12_2:w9.cell? ⟨gb103,2,none⟩ = some (.int .i64 0):=(I BK103.out 2).trans rfl;have hcz12_3:w9.cell? ⟨gb103,3,none⟩ = some (.int .i64 0):=(I BK103.out 3).trans rfl;have hcz12_4:w9.cell? ⟨gb103,4,none⟩ = some (.string (⟨#[]⟩ : ByteArray)):=(I BK103.out 4).trans rfl;have hcz12_5:w9.cell? ⟨gb103,5,none⟩ = some (.string (⟨#[]⟩ : ByteArray)):=(I BK103.out 5).trans rfl;have hcz12_6:w9.cell? ⟨gb103,6,none⟩ = some (.bool false):=(I BK103.out 6).trans rfl;have hcz12_7:w9.cell? ⟨gb103,7,none⟩ = some (.bool false):=(I BK103.out 7).trans rfl;have hfz12_0:=J BK103.out 0;have hfz12_1:=J BK103.out 1;have hfz12_2:=J BK103.out 2;have hfz12_3:=J BK103.out 3;have hfz12_4:=J BK103.out 4;have hfz12_5:=J BK103.out 5;have hfz12_6:=J BK103.out 6;have hfz12_7:=J BK103.out 7;obtain⟨Ao13,co13,eo13⟩:=Kd.R_slice HO109.out;subst eo13;have hcz14_0:w9.cell? ⟨gb101,0,none⟩ = some (.slice A0_0 l0_0.length c0_0):=(I BK101.out 0).trans rfl;have hcz14_1:w9.cell? ⟨gb101,1,none⟩ = some (.slice A0_1 l0_1.length c0_1):=(I BK101.out 1).trans rfl;have hcz14_2:w9.cell? ⟨gb101,2,none⟩ = some (.int .i64 a0_2):=(I BK101.out 2).trans rfl;have hcz14_3:w9.cell? ⟨gb101,3,none⟩ = some (.int .i64 a0_3):=(I BK101.out 3).trans rfl;have hcz14_4:w9.cell? ⟨gb101,4,none⟩ = some (.string a0_4):=(I BK101.out 4).trans rfl;have hcz14_5:w9.cell? ⟨gb101,5,none⟩ = some (.string a0_5):=(I BK101.out 5).trans rfl;have hcz14_6:w9.cell? ⟨gb101,6,none⟩ = some (.bool a0_6):=(I BK101.out 6).trans rfl;have hcz14_7:w9.cell? ⟨gb101,7,none⟩ = some (.bool a0_7):=(I BK101.out 7).trans rfl;have hfz14_0:=J BK101.out 0;have hfz14_1:=J BK101.out 1;have hfz14_2:=J BK101.out 2;have hfz14_3:=J BK101.out 3;have hfz14_4:=J BK101.out 4;have hfz14_5:=J BK101.out 5;have hfz14_6:=J BK101.out 6;have hfz14_7:=J BK101.out 7;have hcz15_0:w9.cell? ⟨gb102,0,none⟩ = some (.slice none 0 0):=(I BK102.out 0).trans rfl;have hcz15_1:w9.cell? ⟨gb102,1,none⟩ = some (.slice none 0 0):=(I BK102.out 1).trans rfl;have hcz15_2:w9.cell? ⟨gb102,2,none⟩ = some (.int .i64 0):=(I BK102.out 2).trans rfl;have hcz15_3:w9.cell? ⟨gb102,3,none⟩ = some (.int .i64 0):=(I BK102.out 3).trans rfl;have hcz15_4:w9.cell? ⟨gb102,4,none⟩ = some (.string (⟨#[]⟩ : ByteArray)):=(I BK102.out 4).trans rfl;have hcz15_5:w9.cell? ⟨gb102,5,none⟩ = some (.string (⟨#[]⟩ : ByteArray)):=(I BK102.out 5).trans rfl;have hcz15_6:w9.cell? ⟨gb102,6,none⟩ = some (.bool false):=(I BK102.out 6).trans rfl;have hcz15_7:w9.cell? ⟨gb102,7,none⟩ = some (.bool false):=(I BK102.out 7).trans rfl;have hfz15_0:=J BK102.out 0;have hfz15_1:=J BK102.out 1;have hfz15_2:=J BK102.out 2;have hfz15_3:=J BK102.out 3;have hfz15_4:=J BK102.out 4;have hfz15_5:=J BK102.out 5;have hfz15_6:=J BK102.out 6;have hfz15_7:=J BK102.out 7))
 refine bodyPost_ret (results_cell_row rfl _ _ gb102 62 #[.slice Ao10 t104.length co10,.slice Ao13 t107.length co13,.int .i64 t110,.int .i64 t111,.string a0_4,.string a0_5,.bool a0_6,.bool a0_7] (0,0) _ rfl (by(with_reducible repeat(first|refine qj ?_ _|refine qk ?_|refine qz ?_ _));refine blk_put (cs:=#[.slice Ao10 t104.length co10,.slice Ao13 t107.length co13,.int .i64 t110,.int .i64 t111,.string a0_4,.string a0_5,.bool a0_6,.bool false]) ?_ 7 _ rfl;(with_reducible repeat(first|refine qj ?_ _|refine qk ?_|refine qz ?_ _));refine blk_put (cs:=#[.slice Ao10 t104.length co10,.slice Ao13 t107.length co13,.int .i64 t110,.int .i64 t111,.string a0_4,.string a0_5,.bool false,.bool false]) ?_ 6 _ rfl;(with_reducible repeat(first|refine qj ?_ _|refine qk ?_|refine qz ?_ _));refine blk_put (cs:=#[.slice Ao10 t104.length co10,.slice Ao13 t107.length co13,.int .i64 t110,.int .i64 t111,.string a0_4,.string (⟨#[]⟩ : ByteArray),.bool false,.bool false]) ?_ 5 _ rfl;(with_reducible repeat(first|refine qj ?_ _|refine qk ?_|refine qz ?_ _));refine blk_put (cs:=#[.slice Ao10 t104.length co10,.slice Ao13 t107.length co13,.int .i64 t110,.int .i64 t111,.string (⟨#[]⟩ : ByteArray),.string (⟨#[]⟩ : ByteArray),.bool false,.bool false]) ?_ 4 _ rfl;(with_reducible repeat(first|refine qj ?_ _|refine qk ?_|refine qz ?_ _));refine blk_put (cs:=#[.slice Ao10 t104.length co10,.slice Ao13 t107.length co13,.int .i64 t110,.int .i64 0,.string (⟨#[]⟩ : ByteArray),.string (⟨#[]⟩ : ByteArray),.bool false,.bool false]) ?_ 3 _ rfl;(with_reducible repeat(first|refine qj ?_ _|refine qk ?_|refine qz ?_ _));refine blk_put (cs:=#[.slice Ao10 t104.length co10,.slice Ao13 t107.length co13,.int .i64 0,.int .i64 0,.string (⟨#[]⟩ : ByteArray),.string (⟨#[]⟩ : ByteArray),.bool false,.bool false]) ?_ 2 _ rfl;(with_reducible repeat(first|refine qj ?_ _|refine qk ?_|refine qz ?_ _));refine blk_put (cs:=#[.slice Ao10 t104.length co10,.slice none 0 0,.int .i64 0,.int .i64 0,.string (⟨#[]⟩ : ByteArray),.string (⟨#[]⟩ : ByteArray),.bool false,.bool false]) ?_ 1 _ rfl;(with_reducible repeat(first|refine qj ?_ _|refine qk ?_|refine qz ?_ _));refine blk_put (cs:=#[.slice none 0 0,.slice none 0 0,.int .i64 0,.int .i64 0,.string (⟨#[]⟩ : ByteArray),.string (⟨#[]⟩ : ByteArray),.bool false,.bool false]) ?_ 0 _ rfl;(with_reducible repeat(first|refine qj ?_ _|refine qk ?_|refine qz ?_ _));refine blk_far ?_ NB102_103.out _;(with_reducible repeat(first|refine qj ?_ _|refine qk ?_|refine qz ?_ _));refine blk_far ?_ NB102_103.out _;(with_reducible repeat(first|refine qj ?_ _|refine qk ?_|refine qz ?_ _));refine blk_far ?_ NB102_103.out _;(with_reducible repeat(first|refine qj ?_ _|refine qk ?_|refine qz ?_ _));refine blk_far ?_ NB102_103.out _;(with_reducible repeat(first|refine qj ?_ _|refine qk ?_|refine qz ?_ _));refine blk_far ?_ NB102_103.out _;(with_reducible repeat(first|refine qj ?_ _|refine qk ?_|refine qz ?_ _));refine blk_far ?_ NB102_103.out _;(with_reducible repeat(first|refine qj ?_ _|refine qk ?_|refine qz ?_ _));refine blk_far ?_ NB102_103.out _;(with_reducible repeat(first|refine qj ?_ _|refine qk ?_|refine qz ?_ _));refine blk_far ?_ NB102_103.out _;(with_reducible repeat(first|refine qj ?_ _|refine qk ?_|refine qz ?_ _));exact BK102.out) Try.underlying62 rfl (by kernel_rfl)) rfl ?_
 exact⟨_,_,by first|rfl|(simp[*,zv,zk] <;> rfl),by(with_reducible repeat(first|apply Kd.jk|apply Kd.jj|apply Kd.jv));exact Kd.S_mono (Kd.S_far (p:=⟨gb102,7,none⟩) (Kd.S_far (p:=⟨gb102,6,none⟩) (Kd.S_far (p:=⟨gb102,5,none⟩) (Kd.S_far (p:=⟨gb102,4,none⟩) (Kd.S_far (p:=⟨gb102,3,none⟩) (Kd.S_far (p:=⟨gb102,2,none⟩) (Kd.S_far (p:=⟨gb102,1,none⟩) (Kd.S_far (p:=⟨gb102,0,none⟩) (Kd.S_far (p:=⟨gb103,7,none⟩) (Kd.S_far (p:=⟨gb103,6,none⟩) (Kd.S_far (p:=⟨gb103,5,none⟩) (Kd.S_far (p:=⟨gb103,4,none⟩) (Kd.S_far (p:=⟨gb103,3,none⟩) (Kd.S_far (p:=⟨gb103,2,none⟩) (Kd.S_far (p:=⟨gb103,1,none⟩) (Kd.S_far (p:=⟨gb103,0,none⟩) (Kd.S_types (Kd.S_types HO106.out BK103.out (by decide)) BK102.out (by decide)) (fun _ hk=>hk.1.2) (.slice Ao10 t104.length co10)) (fun _ hk=>hk.1.2) (.slice Ao13 t107.length co13)) (fun _ hk=>hk.1.2) (.int .i64 t110)) (fun _ hk=>hk.1.2) (.int .i64 t111)) (fun _ hk=>hk.1.2) (.string a0_4)) (fun _ hk=>hk.1.2) (.string a0_5)) (fun _ hk=>hk.1.2) (.bool a0_6)) (fun _ hk=>hk.1.2) (.bool a0_7)) (fun _ hk=>hk.2) (.slice Ao10 t104.length co10)) (fun _ hk=>hk.2) (.slice Ao13 t107.length co13)) (fun _ hk=>hk.2) (.int .i64 t110)) (fun _ hk=>hk.2) (.int .i64 t111)) (fun _ hk=>hk.2) (.string a0_4)) (fun _ hk=>hk.2) (.string a0_5)) (fun _ hk=>hk.2) (.bool a0_6)) (fun _ hk=>hk.2) (.bool a0_7)) (fun _ hk=>hk.1.1),by(with_reducible repeat(first|apply Kd.zz|apply Kd.zq|apply Kd.zj));exact Kd.R_mono (Kd.R_far (p:=⟨gb102,7,none⟩) (Kd.R_far (p:=⟨gb102,6,none⟩) (Kd.R_far (p:=⟨gb102,5,none⟩) (Kd.R_far (p:=⟨gb102,4,none⟩) (Kd.R_far (p:=⟨gb102,3,none⟩) (Kd.R_far (p:=⟨gb102,2,none⟩) (Kd.R_far (p:=⟨gb102,1,none⟩) (Kd.R_far (p:=⟨gb102,0,none⟩) (Kd.R_far (p:=⟨gb103,7,none⟩) (Kd.R_far (p:=⟨gb103,6,none⟩) (Kd.R_far (p:=⟨gb103,5,none⟩) (Kd.R_far (p:=⟨gb103,4,none⟩) (Kd.R_far (p:=⟨gb103,3,none⟩) (Kd.R_far (p:=⟨gb103,2,none⟩) (Kd.R_far (p:=⟨gb103,1,none⟩) (Kd.R_far (p:=⟨gb103,0,none⟩) (Kd.R_types (Kd.R_types HO109.out BK103.out (by decide)) BK102.out (by decide)) (fun _ hk=>hk.1.2) (.slice Ao10 t104.length co10)) (fun _ hk=>hk.1.2) (.slice Ao13 t107.length co13)) (fun _ hk=>hk.1.2) (.int .i64 t110)) (fun _ hk=>hk.1.2) (.int .i64 t111)) (fun _ hk=>hk.1.2) (.string a0_4)) (fun _ hk=>hk.1.2) (.string a0_5)) (fun _ hk=>hk.1.2) (.bool a0_6)) (fun _ hk=>hk.1.2) (.bool a0_7)) (fun _ hk=>hk.2) (.slice Ao10 t104.length co10)) (fun _ hk=>hk.2) (.slice Ao13 t107.length co13)) (fun _ hk=>hk.2) (.int .i64 t110)) (fun _ hk=>hk.2) (.int .i64 t111)) (fun _ hk=>hk.2) (.string a0_4)) (fun _ hk=>hk.2) (.string a0_5)) (fun _ hk=>hk.2) (.bool a0_6)) (fun _ hk=>hk.2) (.bool a0_7)) (fun _ hk=>trivial),by repeat(first|(with_reducible first|exact HB.out|apply O|apply U|apply L|refine qq ?_ GE101.out|refine qq ?_ GE102.out|refine qq ?_ GE103.out)|exact HB.out)⟩
def qqv.f (k:Nat) (l0_0:List (S77)) (l0_1:List Int) (a0_2:Int) (a0_3:Int) (a0_4:ByteArray) (a0_5:ByteArray) (a0_6:Bool) (a0_7:Bool) (l1_0:List (S77)) (l1_1:List Int) (a1_2:Int) (a1_3:Int) (a1_4:ByteArray) (a1_5:ByteArray) (a1_6:Bool) (a1_7:Bool):Option (Bool):=(qzj.f k l0_0 l0_1 a0_2 a0_3 l1_0 l1_1 a1_2 a1_3).bind fun t103=>(if t103=true then(if a0_4.toList=a1_4.toList then(if a0_5.toList=a1_5.toList then(if (a0_6 != a1_6)=true then(some false) else(if (a0_7 != a1_7)=true then(some false) else(some true))) else(some false)) else(some false)) else(some false))
theorem qqv.calls (k:Nat) (A0_0:Option Addr) (c0_0:Nat) (l0_0:List (S77)) (A0_1:Option Addr) (c0_1:Nat) (l0_1:List Int) (a0_2:Int) (a0_3:Int) (a0_4:ByteArray) (a0_5:ByteArray) (a0_6:Bool) (a0_7:Bool) (A1_0:Option Addr) (c1_0:Nat) (l1_0:List (S77)) (A1_1:Option Addr) (c1_1:Nat) (l1_1:List Int) (a1_2:Int) (a1_3:Int) (a1_4:ByteArray) (a1_5:ByteArray) (a1_6:Bool) (a1_7:Bool) (r:Bool) (w:World) (hr0_0:Kd.C k77 w A0_0 l0_0.length l0_0) (hc0_0:l0_0.length≤c0_0) (hr0_1:Kd.C (Kd.int .u8) w A0_1 l0_1.length l0_1) (hc0_1:l0_1.length≤c0_1) (hr1_0:Kd.C k77 w A1_0 l1_0.length l1_0) (hc1_0:l1_0.length≤c1_0) (hr1_1:Kd.C (Kd.int .u8) w A1_1 l1_1.length l1_1) (hc1_1:l1_1.length≤c1_1) (h:qqv.f k l0_0 l0_1 a0_2 a0_3 a0_4 a0_5 a0_6 a0_7 l1_0 l1_1 a1_2 a1_3 a1_4 a1_5 a1_6 a1_7=some r) :
  Calls Try.prog 33 #[.agg #[.slice A0_0 l0_0.length c0_0,.slice A0_1 l0_1.length c0_1,.int .i64 a0_2,.int .i64 a0_3,.string a0_4,.string a0_5,.bool a0_6,.bool a0_7],.agg #[.slice A1_0 l1_0.length c1_0,.slice A1_1 l1_1.length c1_1,.int .i64 a1_2,.int .i64 a1_3,.string a1_4,.string a1_5,.bool a1_6,.bool a1_7]] w fun e w'=>e=.returned (.bool r)∧Below w.heap.size w w':=by
 have hu62:=Try.underlying62
 have hu45:=Try.underlying45
 have HR0_0:=X.mk hr0_0
 have HC0_0:=X.mk hc0_0
 clear hr0_0 hc0_0
 have HR0_1:=X.mk hr0_1
 have HC0_1:=X.mk hc0_1
 clear hr0_1 hc0_1
 have HR1_0:=X.mk hr1_0
 have HC1_0:=X.mk hc1_0
 clear hr1_0 hc1_0
 have HR1_1:=X.mk hr1_1
 have HC1_1:=X.mk hc1_1
 clear hr1_1 hc1_1
 have HB:=X.mk (Below.refl w.heap.size w)
 unfold qqv.f at h
 have H:=h
 clear h
 replace H:=jq8.mp H
 obtain⟨t103,A30,H⟩:=H
 try dsimp only at H
 have A3:=X.mk A30
 clear A30
 by_cases c4:t103=true
 ·subst c4
  have H1:(if a0_4.toList=a1_4.toList then(if a0_5.toList=a1_5.toList then(if (a0_6 != a1_6)=true then(some false) else(if (a0_7 != a1_7)=true then(some false) else(some true))) else(some false)) else(some false))=some r:=by rw[if_pos rfl] at H;exact H
  clear H
  have H:=H1
  clear H1
  by_cases c5:a0_4.toList=a1_4.toList
  ·rw[if_pos c5] at H
   have c5b0:(a0_4.toList == a1_4.toList)=true:=beq_iff_eq.mpr c5
   have c5b1:(a0_4.toList != a1_4.toList)=false:=bne_eq_false_iff_eq.mpr c5
   clear c5
   by_cases c6:a0_5.toList=a1_5.toList
   ·rw[if_pos c6] at H
    have c6b0:(a0_5.toList == a1_5.toList)=true:=beq_iff_eq.mpr c6
    have c6b1:(a0_5.toList != a1_5.toList)=false:=bne_eq_false_iff_eq.mpr c6
    clear c6
    by_cases c7:(a0_6 != a1_6)=true
    ·rw[if_pos c7] at H
     have c7b0:(a0_6 != a1_6)=true:=c7
     (try (have c7b1:decide (a0_6=a1_6)=false:=by simpa using c7))
     (try (have c7b2:(a0_6 == a1_6)=false:=by simpa using c7))
     (try (have c7b3:¬ (a0_6=a1_6):=by simpa using c7))
     clear c7
     obtain rfl:=Option.some.inj H
     go_enter Try.func33,Try.ntmps33
     go_wp2_with (first|((with_reducible refine gate_dst (N:=2) rfl ?_);refine box_event ?hg (N:=2) ?hd (cs:=#[.slice A0_0 l0_0.length c0_0,.slice A0_1 l0_1.length c0_1,.int .i64 a0_2,.int .i64 a0_3,.string a0_4,.string a0_5,.bool a0_6,.bool a0_7]) (t:=62) ?hr ?_;(case hd=>rfl);(case hg=>rfl);(case hr=>first|(go_simp;done)|(go_simp;rfl));intro gb101 hg w8 hbox hb;have BK101:=X.mk (hbox);have GW101:=X.mk ((by rw[hg];exact(qx (by solve_by_elim only[HB.out,O,U,L])):w.heap.size≤gb101));have GE101:=X.mk ((by rw[hg];exact(qx (by solve_by_elim only[HB.out,O,U,L])):w.heap.size≤gb101));replace HB:=X.mk (qw (by solve_by_elim only[HB.out,O,U,L]) hb);clear hb hbox hg)|((with_reducible refine gate_dst (N:=3) rfl ?_);refine box_event ?hg (N:=3) ?hd (cs:=#[.slice A1_0 l1_0.length c1_0,.slice A1_1 l1_1.length c1_1,.int .i64 a1_2,.int .i64 a1_3,.string a1_4,.string a1_5,.bool a1_6,.bool a1_7]) (t:=62) ?hr ?_;(case hd=>rfl);(case hg=>rfl);(case hr=>first|(go_simp;done)|(go_simp;rfl));intro gb102 hg w9 hbox hb;have BK102:=X.mk (hbox);have GW102:=X.mk ((by rw[hg];exact(qx (by solve_by_elim (maxDepth:=20) only[HB.out,O,U,L,qq,GE101.out])):w.heap.size≤gb102));have GE102:=X.mk ((by rw[hg];exact(qx (by solve_by_elim (maxDepth:=20) only[HB.out,O,U,L,qq,GE101.out])):w.heap.size≤gb102));replace HB:=X.mk (qw (by solve_by_elim (maxDepth:=20) only[HB.out,O,U,L,qq,GE101.out]) hb);have NB101_102:=X.mk ((by rw[hg];exact Nat.ne_of_lt (blk_lt (g:=gb101) (o:=.cells #[.slice A0_0 l0_0.length c0_0,.slice A0_1 l0_1.length c0_1,.int .i64 a0_2,.int .i64 a0_3,.string a0_4,.string a0_5,.bool a0_6,.bool a0_7] 62 (0,0)) (by solve_by_elim only[BK101.out,qj,qk,qz])):gb101≠gb102));have NB102_101:=X.mk ((by rw[hg];exact Nat.ne_of_gt (blk_lt (g:=gb101) (o:=.cells #[.slice A0_0 l0_0.length c0_0,.slice A0_1 l0_1.length c0_1,.int .i64 a0_2,.int .i64 a0_3,.string a0_4,.string a0_5,.bool a0_6,.bool a0_7] 62 (0,0)) (by solve_by_elim only[BK101.out,qj,qk,qz])):gb102≠gb101));replace BK101:=X.mk (kj (g:=gb101) (o:=.cells #[.slice A0_0 l0_0.length c0_0,.slice A0_1 l0_1.length c0_1,.int .i64 a0_2,.int .i64 a0_3,.string a0_4,.string a0_5,.bool a0_6,.bool a0_7] 62 (0,0)) (by solve_by_elim only[BK101.out,qj,qk,qz]) hb);clear hb hbox hg;have hnb10:=NB101_102.out;have hnc10:=NB102_101.out;have hcz11_0:w9.cell? ⟨gb101,0,none⟩ = some (.slice A0_0 l0_0.length c0_0):=(I BK101.out 0).trans rfl;have hcz11_1:w9.cell? ⟨gb101,1,none⟩ = some (.slice A0_1 l0_1.length c0_1):=(I BK101.out 1).trans rfl;have hcz11_2:w9.cell? ⟨gb101,2,none⟩ = some (.int .i64 a0_2):=(I BK101.out 2).trans rfl;have hcz11_3:w9.cell? ⟨gb101,3,none⟩ = some (.int .i64 a0_3):=(I BK101.out 3).trans rfl;have hcz11_4:w9.cell? ⟨gb101,4,none⟩ = some (.string a0_4):=(I BK101.out 4).trans rfl;have hcz11_5:w9.cell? ⟨gb101,5,none⟩ = some (.string a0_5):=(I BK101.out 5).trans rfl;have hcz11_6:w9.cell? ⟨gb101,6,none⟩ = some (.bool a0_6):=(I BK101.out 6).trans rfl;have hcz11_7:w9.cell? ⟨gb101,7,none⟩ = some (.bool a0_7):=(I BK101.out 7).trans rfl;have hfz11_0:=J BK101.out 0;have hfz11_1:=J BK101.out 1;have hfz11_2:=J BK101.out 2;have hfz11_3:=J BK101.out 3;have hfz11_4:=J BK101.out 4;have hfz11_5:=J BK101.out 5;have hfz11_6:=J BK101.out 6;have hfz11_7:=J BK101.out 7;have hcz12_0:w9.cell? ⟨gb102,0,none⟩ = some (.slice A1_0 l1_0.length c1_0):=(I BK102.out 0).trans rfl;have hcz12_1:w9.cell? ⟨gb102,1,none⟩ = some (.slice A1_1 l1_1.length c1_1):=(I BK102.out 1).trans rfl;have hcz12_2:w9.cell? ⟨gb102,2,none⟩ = some (.int .i64 a1_2):=(I BK102.out 2).trans rfl;have hcz12_3:w9.cell? ⟨gb102,3,none⟩ = some (.int .i64 a1_3):=(I BK102.out 3).trans rfl;have hcz12_4:w9.cell? ⟨gb102,4,none⟩ = some (.string a1_4):=(I BK102.out 4).trans rfl;have hcz12_5:w9.cell? ⟨gb102,5,none⟩ = some (.string a1_5):=(I BK102.out 5).trans rfl;have hcz12_6:w9.cell? ⟨gb102,6,none⟩ = some (.bool a1_6):=(I BK102.out 6).trans rfl;have hcz12_7:w9.cell? ⟨gb102,7,none⟩ = some (.bool a1_7):=(I BK102.out 7).trans rfl;have hfz12_0:=J BK102.out 0;have hfz12_1:=J BK102.out 1;have hfz12_2:=J BK102.out 2;have hfz12_3:=J BK102.out 3;have hfz12_4:=J BK102.out 4;have hfz12_5:=J BK102.out 5;have hfz12_6:=J BK102.out 6;have hfz12_7:=J BK102.out 7)|((with_reducible refine zw (f:=22) rfl ?_);refine goesL_ (some 9) rfl rfl Try.func22 (by kernel_rfl) rfl #[.agg #[.slice A0_0 l0_0.length c0_0,.slice A0_1 l0_1.length c0_1,.int .i64 a0_2,.int .i64 a0_3],.agg #[.slice A1_0 l1_0.length c1_0,.slice A1_1 l1_1.length c1_1,.int .i64 a1_2,.int .i64 a1_3]] rfl (by(try simp only[jq0,jq1,jq2]);first|done|rfl|(simp only[jq3,jq4];rfl)) ?_;(with_reducible refine(qzj.calls k _ _ l0_0 _ _ l0_1 a0_2 a0_3 _ _ l1_0 _ _ l1_1 a1_2 a1_3 true _ ?side1 ?side2 ?side3 ?side4 ?side5 ?side6 ?side7 ?side8 A3.out).mono ?_);(case side1=>solve_by_elim only[(Kd.C_below HR0_0.out HB.out),Kd.C_alloc,Kd.C_drewN,Kd.C_drew]);(case side2=>exact HC0_0.out);(case side3=>solve_by_elim only[(Kd.C_below HR0_1.out HB.out),Kd.C_alloc,Kd.C_drewN,Kd.C_drew]);(case side4=>exact HC0_1.out);(case side5=>solve_by_elim only[(Kd.C_below HR1_0.out HB.out),Kd.C_alloc,Kd.C_drewN,Kd.C_drew]);(case side6=>exact HC1_0.out);(case side7=>solve_by_elim only[(Kd.C_below HR1_1.out HB.out),Kd.C_alloc,Kd.C_drewN,Kd.C_drew]);(case side8=>exact HC1_1.out);rintro e w13 ⟨rfl,hb⟩;refine⟨_,rfl,?_⟩;replace BK101:=X.mk (kj (g:=gb101) (o:=.cells #[.slice A0_0 l0_0.length c0_0,.slice A0_1 l0_1.length c0_1,.int .i64 a0_2,.int .i64 a0_3,.string a0_4,.string a0_5,.bool a0_6,.bool a0_7] 62 (0,0)) (by solve_by_elim only[BK101.out,qj,qk,qz]) hb);replace BK102:=X.mk (kj (g:=gb102) (o:=.cells #[.slice A1_0 l1_0.length c1_0,.slice A1_1 l1_1.length c1_1,.int .i64 a1_2,.int .i64 a1_3,.string a1_4,.string a1_5,.bool a1_6,.bool a1_7] 62 (0,0)) (by solve_by_elim only[BK102.out,qj,qk,qz]) hb);replace HB:=X.mk (qw (by solve_by_elim (maxDepth:=20) only[HB.out,O,U,L,qq,GE101.out,qq,GE102.out]) hb);(try clear hb);have hcz14_0:w13.cell? ⟨gb101,0,none⟩ = some (.slice A0_0 l0_0.length c0_0):=(I BK101.out 0).trans rfl;have hcz14_1:w13.cell? ⟨gb101,1,none⟩ = some (.slice A0_1 l0_1.length c0_1):=(I BK101.out 1).trans rfl;have hcz14_2:w13.cell? ⟨gb101,2,none⟩ = some (.int .i64 a0_2):=(I BK101.out 2).trans rfl;have hcz14_3:w13.cell? ⟨gb101,3,none⟩ = some (.int .i64 a0_3):=(I BK101.out 3).trans rfl;have hcz14_4:w13.cell? ⟨gb101,4,none⟩ = some (.string a0_4):=(I BK101.out 4).trans rfl;have hcz14_5:w13.cell? ⟨gb101,5,none⟩ = some (.string a0_5):=(I BK101.out 5).trans rfl;have hcz14_6:w13.cell? ⟨gb101,6,none⟩ = some (.bool a0_6):=(I BK101.out 6).trans rfl;have hcz14_7:w13.cell? ⟨gb101,7,none⟩ = some (.bool a0_7):=(I BK101.out 7).trans rfl;have hfz14_0:=J BK101.out 0;have hfz14_1:=J BK101.out 1;have hfz14_2:=J BK101.out 2;have hfz14_3:=J BK101.out 3;have hfz14_4:=J BK101.out 4;have hfz14_5:=J BK101.out 5;have hfz14_6:=J BK101.out 6;have hfz14_7:=J BK101.out 7;have hcz15_0:w13.cell? ⟨gb102,0,none⟩ = some (.slice A1_0 l1_0.length c1_0):=(I BK102.out 0).trans rfl;have hcz15_1:w13.cell? ⟨gb102,1,none⟩ = some (.slice A1_1 l1_1.length c1_1):=(I BK102.out 1).trans rfl;have hcz15_2:w13.cell? ⟨gb102,2,none⟩ = some (.int .i64 a1_2):=(I BK102.out 2).trans rfl;have hcz15_3:w13.cell? ⟨gb102,3,none⟩ = some (.int .i64 a1_3):=(I BK102.out 3).trans rfl;have hcz15_4:w13.cell? ⟨gb102,4,none⟩ = some (.string a1_4):=(I BK102.out 4).trans rfl;have hcz15_5:w13.cell? ⟨gb102,5,none⟩ = some (.string a1_5):=(I BK102.out 5).trans rfl;have hcz15_6:w13.cell? ⟨gb102,6,none⟩ = some (.bool a1_6):=(I BK102.out 6).trans rfl;have hcz15_7:w13.cell? ⟨gb102,7,none⟩ = some (.bool a1_7):=(I BK102.out 7).trans rfl;have hfz15_0:=J BK102.out 0;have hfz15_1:=J BK102.out 1;have hfz15_2:=J BK102.out 2;have hfz15_3:=J BK102.out 3;have hfz15_4:=J BK102.out 4;have hfz15_5:=J BK102.out 5;have hfz15_6:=J BK102.out 6;have hfz15_7:=J BK102.out 7))
     go_ret
     exact⟨by first|rfl|(simp[*,zv,zk] <;> rfl),by repeat(first|(with_reducible first|exact HB.out|apply O|apply U|apply L|refine qq ?_ GE101.out|refine qq ?_ GE102.out)|exact HB.out)⟩
    ·rw[if_neg c7] at H
     have c7b0:(a0_6 != a1_6)=false:=by simpa using c7
     (try (have c7b1:decide (a0_6=a1_6)=true:=by simpa using c7))
     (try (have c7b2:(a0_6 == a1_6)=true:=by simpa using c7))
     clear c7
     by_cases c16:(a0_7 != a1_7)=true
     ·rw[if_pos c16] at H
      have c16b0:(a0_7 != a1_7)=true:=c16
      (try (have c16b1:decide (a0_7=a1_7)=false:=by simpa using c16))
      (try (have c16b2:(a0_7 == a1_7)=false:=by simpa using c16))
      (try (have c16b3:¬ (a0_7=a1_7):=by simpa using c16))
      clear c16
      obtain rfl:=Option.some.inj H
      go_enter Try.func33,Try.ntmps33
      go_wp2_with (first|((with_reducible refine gate_dst (N:=2) rfl ?_);refine box_event ?hg (N:=2) ?hd (cs:=#[.slice A0_0 l0_0.length c0_0,.slice A0_1 l0_1.length c0_1,.int .i64 a0_2,.int .i64 a0_3,.string a0_4,.string a0_5,.bool a0_6,.bool a0_7]) (t:=62) ?hr ?_;(case hd=>rfl);(case hg=>rfl);(case hr=>first|(go_simp;done)|(go_simp;rfl));intro gb101 hg w17 hbox hb;have BK101:=X.mk (hbox);have GW101:=X.mk ((by rw[hg];exact(qx (by solve_by_elim only[HB.out,O,U,L])):w.heap.size≤gb101));have GE101:=X.mk ((by rw[hg];exact(qx (by solve_by_elim only[HB.out,O,U,L])):w.heap.size≤gb101));replace HB:=X.mk (qw (by solve_by_elim only[HB.out,O,U,L]) hb);clear hb hbox hg)|((with_reducible refine gate_dst (N:=3) rfl ?_);refine box_event ?hg (N:=3) ?hd (cs:=#[.slice A1_0 l1_0.length c1_0,.slice A1_1 l1_1.length c1_1,.int .i64 a1_2,.int .i64 a1_3,.string a1_4,.string a1_5,.bool a1_6,.bool a1_7]) (t:=62) ?hr ?_;(case hd=>rfl);(case hg=>rfl);(case hr=>first|(go_simp;done)|(go_simp;rfl));intro gb102 hg w18 hbox hb;have BK102:=X.mk (hbox);have GW102:=X.mk ((by rw[hg];exact(qx (by solve_by_elim (maxDepth:=20) only[HB.out,O,U,L,qq,GE101.out])):w.heap.size≤gb102));have GE102:=X.mk ((by rw[hg];exact(qx (by solve_by_elim (maxDepth:=20) only[HB.out,O,U,L,qq,GE101.out])):w.heap.size≤gb102));replace HB:=X.mk (qw (by solve_by_elim (maxDepth:=20) only[HB.out,O,U,L,qq,GE101.out]) hb);have NB101_102:=X.mk ((by rw[hg];exact Nat.ne_of_lt (blk_lt (g:=gb101) (o:=.cells #[.slice A0_0 l0_0.length c0_0,.slice A0_1 l0_1.length c0_1,.int .i64 a0_2,.int .i64 a0_3,.string a0_4,.string a0_5,.bool a0_6,.bool a0_7] 62 (0,0)) (by solve_by_elim only[BK101.out,qj,qk,qz])):gb101≠gb102));have NB102_101:=X.mk ((by rw[hg];exact Nat.ne_of_gt (blk_lt (g:=gb101) (o:=.cells #[.slice A0_0 l0_0.length c0_0,.slice A0_1 l0_1.length c0_1,.int .i64 a0_2,.int .i64 a0_3,.string a0_4,.string a0_5,.bool a0_6,.bool a0_7] 62 (0,0)) (by solve_by_elim only[BK101.out,qj,qk,qz])):gb102≠gb101));replace BK101:=X.mk (kj (g:=gb101) (o:=.cells #[.slice A0_0 l0_0.length c0_0,.slice A0_1 l0_1.length c0_1,.int .i64 a0_2,.int .i64 a0_3,.string a0_4,.string a0_5,.bool a0_6,.bool a0_7] 62 (0,0)) (by solve_by_elim only[BK101.out,qj,qk,qz]) hb);clear hb hbox hg;have hnb19:=NB101_102.out;have hnc19:=NB102_101.out;have hcz20_0:w18.cell? ⟨gb101,0,none⟩ = some (.slice A0_0 l0_0.length c0_0):=(I BK101.out 0).trans rfl;have hcz20_1:w18.cell? ⟨gb101,1,none⟩ = some (.slice A0_1 l0_1.length c0_1):=(I BK101.out 1).trans rfl;have hcz20_2:w18.cell? ⟨gb101,2,none⟩ = some (.int .i64 a0_2):=(I BK101.out 2).trans rfl;have hcz20_3:w18.cell? ⟨gb101,3,none⟩ = some (.int .i64 a0_3):=(I BK101.out 3).trans rfl;have hcz20_4:w18.cell? ⟨gb101,4,none⟩ = some (.string a0_4):=(I BK101.out 4).trans rfl;have hcz20_5:w18.cell? ⟨gb101,5,none⟩ = some (.string a0_5):=(I BK101.out 5).trans rfl;have hcz20_6:w18.cell? ⟨gb101,6,none⟩ = some (.bool a0_6):=(I BK101.out 6).trans rfl;have hcz20_7:w18.cell? ⟨gb101,7,none⟩ = some (.bool a0_7):=(I BK101.out 7).trans rfl;have hfz20_0:=J BK101.out 0;have hfz20_1:=J BK101.out 1;have hfz20_2:=J BK101.out 2;have hfz20_3:=J BK101.out 3;have hfz20_4:=J BK101.out 4;have hfz20_5:=J BK101.out 5;have hfz20_6:=J BK101.out 6;have hfz20_7:=J BK101.out 7;have hcz21_0:w18.cell? ⟨gb102,0,none⟩ = some (.slice A1_0 l1_0.length c1_0):=(I BK102.out 0).trans rfl;have hcz21_1:w18.cell? ⟨gb102,1,none⟩ = some (.slice A1_1 l1_1.length c1_1):=(I BK102.out 1).trans rfl;have hcz21_2:w18.cell? ⟨gb102,2,none⟩ = some (.int .i64 a1_2):=(I BK102.out 2).trans rfl;have hcz21_3:w18.cell? ⟨gb102,3,none⟩ = some (.int .i64 a1_3):=(I BK102.out 3).trans rfl;have hcz21_4:w18.cell? ⟨gb102,4,none⟩ = some (.string a1_4):=(I BK102.out 4).trans rfl;have hcz21_5:w18.cell? ⟨gb102,5,none⟩ = some (.string a1_5):=(I BK102.out 5).trans rfl;have hcz21_6:w18.cell? ⟨gb102,6,none⟩ = some (.bool a1_6):=(I BK102.out 6).trans rfl;have hcz21_7:w18.cell? ⟨gb102,7,none⟩ = some (.bool a1_7):=(I BK102.out 7).trans rfl;have hfz21_0:=J BK102.out 0;have hfz21_1:=J BK102.out 1;have hfz21_2:=J BK102.out 2;have hfz21_3:=J BK102.out 3;have hfz21_4:=J BK102.out 4;have hfz21_5:=J BK102.out 5;have hfz21_6:=J BK102.out 6;have hfz21_7:=J BK102.out 7)|((with_reducible refine zw (f:=22) rfl ?_);refine goesL_ (some 9) rfl rfl Try.func22 (by kernel_rfl) rfl #[.agg #[.slice A0_0 l0_0.length c0_0,.slice A0_1 l0_1.length c0_1,.int .i64 a0_2,.int .i64 a0_3],.agg #[.slice A1_0 l1_0.length c1_0,.slice A1_1 l1_1.length c1_1,.int .i64 a1_2,.int .i64 a1_3]] rfl (by(try simp only[jq0,jq1,jq2]);first|done|rfl|(simp only[jq3,jq4];rfl)) ?_;(with_reducible refine(qzj.calls k _ _ l0_0 _ _ l0_1 a0_2 a0_3 _ _ l1_0 _ _ l1_1 a1_2 a1_3 true _ ?side1 ?side2 ?side3 ?side4 ?side5 ?side6 ?side7 ?side8 A3.out).mono ?_);(case side1=>solve_by_elim only[(Kd.C_below HR0_0.out HB.out),Kd.C_alloc,Kd.C_drewN,Kd.C_drew]);(case side2=>exact HC0_0.out);(case side3=>solve_by_elim only[(Kd.C_below HR0_1.out HB.out),Kd.C_alloc,Kd.C_drewN,Kd.C_drew]);(case side4=>exact HC0_1.out);(case side5=>solve_by_elim only[(Kd.C_below HR1_0.out HB.out),Kd.C_alloc,Kd.C_drewN,Kd.C_drew]);(case side6=>exact HC1_0.out);(case side7=>solve_by_elim only[(Kd.C_below HR1_1.out HB.out),Kd.C_alloc,Kd.C_drewN,Kd.C_drew]);(case side8=>exact HC1_1.out);rintro e w22 ⟨rfl,hb⟩;refine⟨_,rfl,?_⟩;replace BK101:=X.mk (kj (g:=gb101) (o:=.cells #[.slice A0_0 l0_0.length c0_0,.slice A0_1 l0_1.length c0_1,.int .i64 a0_2,.int .i64 a0_3,.string a0_4,.string a0_5,.bool a0_6,.bool a0_7] 62 (0,0)) (by solve_by_elim only[BK101.out,qj,qk,qz]) hb);replace BK102:=X.mk (kj (g:=gb102) (o:=.cells #[.slice A1_0 l1_0.length c1_0,.slice A1_1 l1_1.length c1_1,.int .i64 a1_2,.int .i64 a1_3,.string a1_4,.string a1_5,.bool a1_6,.bool a1_7] 62 (0,0)) (by solve_by_elim only[BK102.out,qj,qk,qz]) hb);replace HB:=X.mk (qw (by solve_by_elim (maxDepth:=20) only[HB.out,O,U,L,qq,GE101.out,qq,GE102.out]) hb);(try clear hb);have hcz23_0:w22.cell? ⟨gb101,0,none⟩ = some (.slice A0_0 l0_0.length c0_0):=(I BK101.out 0).trans rfl;have hcz23_1:w22.cell? ⟨gb101,1,none⟩ = some (.slice A0_1 l0_1.length c0_1):=(I BK101.out 1).trans rfl;have hcz23_2:w22.cell? ⟨gb101,2,none⟩ = some (.int .i64 a0_2):=(I BK101.out 2).trans rfl;have hcz23_3:w22.cell? ⟨gb101,3,none⟩ = some (.int .i64 a0_3):=(I BK101.out 3).trans rfl;have hcz23_4:w22.cell? ⟨gb101,4,none⟩ = some (.string a0_4):=(I BK101.out 4).trans rfl;have hcz23_5:w22.cell? ⟨gb101,5,none⟩ = some (.string a0_5):=(I BK101.out 5).trans rfl;have hcz23_6:w22.cell? ⟨gb101,6,none⟩ = some (.bool a0_6):=(I BK101.out 6).trans rfl;have hcz23_7:w22.cell? ⟨gb101,7,none⟩ = some (.bool a0_7):=(I BK101.out 7).trans rfl;have hfz23_0:=J BK101.out 0;have hfz23_1:=J BK101.out 1;have hfz23_2:=J BK101.out 2;have hfz23_3:=J BK101.out 3;have hfz23_4:=J BK101.out 4;have hfz23_5:=J BK101.out 5;have hfz23_6:=J BK101.out 6;have hfz23_7:=J BK101.out 7;have hcz24_0:w22.cell? ⟨gb102,0,none⟩ = some (.slice A1_0 l1_0.length c1_0):=(I BK102.out 0).trans rfl;have hcz24_1:w22.cell? ⟨gb102,1,none⟩ = some (.slice A1_1 l1_1.length c1_1):=(I BK102.out 1).trans rfl;have hcz24_2:w22.cell? ⟨gb102,2,none⟩ = some (.int .i64 a1_2):=(I BK102.out 2).trans rfl;have hcz24_3:w22.cell? ⟨gb102,3,none⟩ = some (.int .i64 a1_3):=(I BK102.out 3).trans rfl;have hcz24_4:w22.cell? ⟨gb102,4,none⟩ = some (.string a1_4):=(I BK102.out 4).trans rfl;have hcz24_5:w22.cell? ⟨gb102,5,none⟩ = some (.string a1_5):=(I BK102.out 5).trans rfl;have hcz24_6:w22.cell? ⟨gb102,6,none⟩ = some (.bool a1_6):=(I BK102.out 6).trans rfl;have hcz24_7:w22.cell? ⟨gb102,7,none⟩ = some (.bool a1_7):=(I BK102.out 7).trans rfl;have hfz24_0:=J BK102.out 0;have hfz24_1:=J BK102.out 1;have hfz24_2:=J BK102.out 2;have hfz24_3:=J BK102.out 3;have hfz24_4:=J BK102.out 4;have hfz24_5:=J BK102.out 5;have hfz24_6:=J BK102.out 6;have hfz24_7:=J BK102.out 7))
      go_ret
      exact⟨by first|rfl|(simp[*,zv,zk] <;> rfl),by repeat(first|(with_reducible first|exact HB.out|apply O|apply U|apply L|refine qq ?_ GE101.out|refine qq ?_ GE102.out)|exact HB.out)⟩
     ·rw[if_neg c16] at H
      have c16b0:(a0_7 != a1_7)=false:=by simpa using c16
      (try (have c16b1:decide (a0_7=a1_7)=true:=by simpa using c16))
      (try (have c16b2:(a0_7 == a1_7)=true:=by simpa using c16))
      clear c16
      obtain rfl:=Option.some.inj H
      go_enter Try.func33,Try.ntmps33
      go_wp2_with (first|((with_reducible refine gate_dst (N:=2) rfl ?_);refine box_event ?hg (N:=2) ?hd (cs:=#[.slice A0_0 l0_0.length c0_0,.slice A0_1 l0_1.length c0_1,.int .i64 a0_2,.int .i64 a0_3,.string a0_4,.string a0_5,.bool a0_6,.bool a0_7]) (t:=62) ?hr ?_;(case hd=>rfl);(case hg=>rfl);(case hr=>first|(go_simp;done)|(go_simp;rfl));intro gb101 hg w25 hbox hb;have BK101:=X.mk (hbox);have GW101:=X.mk ((by rw[hg];exact(qx (by solve_by_elim only[HB.out,O,U,L])):w.heap.size≤gb101));have GE101:=X.mk ((by rw[hg];exact(qx (by solve_by_elim only[HB.out,O,U,L])):w.heap.size≤gb101));replace HB:=X.mk (qw (by solve_by_elim only[HB.out,O,U,L]) hb);clear hb hbox hg)|((with_reducible refine gate_dst (N:=3) rfl ?_);refine box_event ?hg (N:=3) ?hd (cs:=#[.slice A1_0 l1_0.length c1_0,.slice A1_1 l1_1.length c1_1,.int .i64 a1_2,.int .i64 a1_3,.string a1_4,.string a1_5,.bool a1_6,.bool a1_7]) (t:=62) ?hr ?_;(case hd=>rfl);(case hg=>rfl);(case hr=>first|(go_simp;done)|(go_simp;rfl));intro gb102 hg w26 hbox hb;have BK102:=X.mk (hbox);have GW102:=X.mk ((by rw[hg];exact(qx (by solve_by_elim (maxDepth:=20) only[HB.out,O,U,L,qq,GE101.out])):w.heap.size≤gb102));have GE102:=X.mk ((by rw[hg];exact(qx (by solve_by_elim (maxDepth:=20) only[HB.out,O,U,L,qq,GE101.out])):w.heap.size≤gb102));replace HB:=X.mk (qw (by solve_by_elim (maxDepth:=20) only[HB.out,O,U,L,qq,GE101.out]) hb);have NB101_102:=X.mk ((by rw[hg];exact Nat.ne_of_lt (blk_lt (g:=gb101) (o:=.cells #[.slice A0_0 l0_0.length c0_0,.slice A0_1 l0_1.length c0_1,.int .i64 a0_2,.int .i64 a0_3,.string a0_4,.string a0_5,.bool a0_6,.bool a0_7] 62 (0,0)) (by solve_by_elim only[BK101.out,qj,qk,qz])):gb101≠gb102));have NB102_101:=X.mk ((by rw[hg];exact Nat.ne_of_gt (blk_lt (g:=gb101) (o:=.cells #[.slice A0_0 l0_0.length c0_0,.slice A0_1 l0_1.length c0_1,.int .i64 a0_2,.int .i64 a0_3,.string a0_4,.string a0_5,.bool a0_6,.bool a0_7] 62 (0,0)) (by solve_by_elim only[BK101.out,qj,qk,qz])):gb102≠gb101));replace BK101:=X.mk (kj (g:=gb101) (o:=.cells #[.slice A0_0 l0_0.length c0_0,.slice A0_1 l0_1.length c0_1,.int .i64 a0_2,.int .i64 a0_3,.string a0_4,.string a0_5,.bool a0_6,.bool a0_7] 62 (0,0)) (by solve_by_elim only[BK101.out,qj,qk,qz]) hb);clear hb hbox hg;have hnb27:=NB101_102.out;have hnc27:=NB102_101.out;have hcz28_0:w26.cell? ⟨gb101,0,none⟩ = some (.slice A0_0 l0_0.length c0_0):=(I BK101.out 0).trans rfl;have hcz28_1:w26.cell? ⟨gb101,1,none⟩ = some (.slice A0_1 l0_1.length c0_1):=(I BK101.out 1).trans rfl;have hcz28_2:w26.cell? ⟨gb101,2,none⟩ = some (.int .i64 a0_2):=(I BK101.out 2).trans rfl;have hcz28_3:w26.cell? ⟨gb101,3,none⟩ = some (.int .i64 a0_3):=(I BK101.out 3).trans rfl;have hcz28_4:w26.cell? ⟨gb101,4,none⟩ = some (.string a0_4):=(I BK101.out 4).trans rfl;have hcz28_5:w26.cell? ⟨gb101,5,none⟩ = some (.string a0_5):=(I BK101.out 5).trans rfl;have hcz28_6:w26.cell? ⟨gb101,6,none⟩ = some (.bool a0_6):=(I BK101.out 6).trans rfl;have hcz28_7:w26.cell? ⟨gb101,7,none⟩ = some (.bool a0_7):=(I BK101.out 7).trans rfl;have hfz28_0:=J BK101.out 0;have hfz28_1:=J BK101.out 1;have hfz28_2:=J BK101.out 2;have hfz28_3:=J BK101.out 3;have hfz28_4:=J BK101.out 4;have hfz28_5:=J BK101.out 5;have hfz28_6:=J BK101.out 6;have hfz28_7:=J BK101.out 7;have hcz29_0:w26.cell? ⟨gb102,0,none⟩ = some (.slice A1_0 l1_0.length c1_0):=(I BK102.out 0).trans rfl;have hcz29_1:w26.cell? ⟨gb102,1,none⟩ = some (.slice A1_1 l1_1.length c1_1):=(I BK102.out 1).trans rfl;have hcz29_2:w26.cell? ⟨gb102,2,none⟩ = some (.int .i64 a1_2):=(I BK102.out 2).trans rfl;have hcz29_3:w26.cell? ⟨gb102,3,none⟩ = some (.int .i64 a1_3):=(I BK102.out 3).trans rfl;have hcz29_4:w26.cell? ⟨gb102,4,none⟩ = some (.string a1_4):=(I BK102.out 4).trans rfl;have hcz29_5:w26.cell? ⟨gb102,5,none⟩ = some (.string a1_5):=(I BK102.out 5).trans rfl;have hcz29_6:w26.cell? ⟨gb102,6,none⟩ = some (.bool a1_6):=(I BK102.out 6).trans rfl;have hcz29_7:w26.cell? ⟨gb102,7,none⟩ = some (.bool a1_7):=(I BK102.out 7).trans rfl;have hfz29_0:=J BK102.out 0;have hfz29_1:=J BK102.out 1;have hfz29_2:=J BK102.out 2;have hfz29_3:=J BK102.out 3;have hfz29_4:=J BK102.out 4;have hfz29_5:=J BK102.out 5;have hfz29_6:=J BK102.out 6;have hfz29_7:=J BK102.out 7)|((with_reducible refine zw (f:=22) rfl ?_);refine goesL_ (some 9) rfl rfl Try.func22 (by kernel_rfl) rfl #[.agg #[.slice A0_0 l0_0.length c0_0,.slice A0_1 l0_1.length c0_1,.int .i64 a0_2,.int .i64 a0_3],.agg #[.slice A1_0 l1_0.length c1_0,.slice A1_1 l1_1.length c1_1,.int .i64 a1_2,.int .i64 a1_3]] rfl (by(try simp only[jq0,jq1,jq2]);first|done|rfl|(simp only[jq3,jq4];rfl)) ?_;(with_reducible refine(qzj.calls k _ _ l0_0 _ _ l0_1 a0_2 a0_3 _ _ l1_0 _ _ l1_1 a1_2 a1_3 true _ ?side1 ?side2 ?side3 ?side4 ?side5 ?side6 ?side7 ?side8 A3.out).mono ?_);(case side1=>solve_by_elim only[(Kd.C_below HR0_0.out HB.out),Kd.C_alloc,Kd.C_drewN,Kd.C_drew]);(case side2=>exact HC0_0.out);(case side3=>solve_by_elim only[(Kd.C_below HR0_1.out HB.out),Kd.C_alloc,Kd.C_drewN,Kd.C_drew]);(case side4=>exact HC0_1.out);(case side5=>solve_by_elim only[(Kd.C_below HR1_0.out HB.out),Kd.C_alloc,Kd.C_drewN,Kd.C_drew]);(case side6=>exact HC1_0.out);(case side7=>solve_by_elim only[(Kd.C_below HR1_1.out HB.out),Kd.C_alloc,Kd.C_drewN,Kd.C_drew]);(case side8=>exact HC1_1.out);rintro e w30 ⟨rfl,hb⟩;refine⟨_,rfl,?_⟩;replace BK101:=X.mk (kj (g:=gb101) (o:=.cells #[.slice A0_0 l0_0.length c0_0,.slice A0_1 l0_1.length c0_1,.int .i64 a0_2,.int .i64 a0_3,.string a0_4,.string a0_5,.bool a0_6,.bool a0_7] 62 (0,0)) (by solve_by_elim only[BK101.out,qj,qk,qz]) hb);replace BK102:=X.mk (kj (g:=gb102) (o:=.cells #[.slice A1_0 l1_0.length c1_0,.slice A1_1 l1_1.length c1_1,.int .i64 a1_2,.int .i64 a1_3,.string a1_4,.string a1_5,.bool a1_6,.bool a1_7] 62 (0,0)) (by solve_by_elim only[BK102.out,qj,qk,qz]) hb);replace HB:=X.mk (qw (by solve_by_elim (maxDepth:=20) only[HB.out,O,U,L,qq,GE101.out,qq,GE102.out]) hb);(try clear hb);have hcz31_0:w30.cell? ⟨gb101,0,none⟩ = some (.slice A0_0 l0_0.length c0_0):=(I BK101.out 0).trans rfl;have hcz31_1:w30.cell? ⟨gb101,1,none⟩ = some (.slice A0_1 l0_1.length c0_1):=(I BK101.out 1).trans rfl;have hcz31_2:w30.cell? ⟨gb101,2,none⟩ = some (.int .i64 a0_2):=(I BK101.out 2).trans rfl;have hcz31_3:w30.cell? ⟨gb101,3,none⟩ = some (.int .i64 a0_3):=(I BK101.out 3).trans rfl;have hcz31_4:w30.cell? ⟨gb101,4,none⟩ = some (.string a0_4):=(I BK101.out 4).trans rfl;have hcz31_5:w30.cell? ⟨gb101,5,none⟩ = some (.string a0_5):=(I BK101.out 5).trans rfl;have hcz31_6:w30.cell? ⟨gb101,6,none⟩ = some (.bool a0_6):=(I BK101.out 6).trans rfl;have hcz31_7:w30.cell? ⟨gb101,7,none⟩ = some (.bool a0_7):=(I BK101.out 7).trans rfl;have hfz31_0:=J BK101.out 0;have hfz31_1:=J BK101.out 1;have hfz31_2:=J BK101.out 2;have hfz31_3:=J BK101.out 3;have hfz31_4:=J BK101.out 4;have hfz31_5:=J BK101.out 5;have hfz31_6:=J BK101.out 6;have hfz31_7:=J BK101.out 7;have hcz32_0:w30.cell? ⟨gb102,0,none⟩ = some (.slice A1_0 l1_0.length c1_0):=(I BK102.out 0).trans rfl;have hcz32_1:w30.cell? ⟨gb102,1,none⟩ = some (.slice A1_1 l1_1.length c1_1):=(I BK102.out 1).trans rfl;have hcz32_2:w30.cell? ⟨gb102,2,none⟩ = some (.int .i64 a1_2):=(I BK102.out 2).trans rfl;have hcz32_3:w30.cell? ⟨gb102,3,none⟩ = some (.int .i64 a1_3):=(I BK102.out 3).trans rfl;have hcz32_4:w30.cell? ⟨gb102,4,none⟩ = some (.string a1_4):=(I BK102.out 4).trans rfl;have hcz32_5:w30.cell? ⟨gb102,5,none⟩ = some (.string a1_5):=(I BK102.out 5).trans rfl;have hcz32_6:w30.cell? ⟨gb102,6,none⟩ = some (.bool a1_6):=(I BK102.out 6).trans rfl;have hcz32_7:w30.cell? ⟨gb102,7,none⟩ = some (.bool a1_7):=(I BK102.out 7).trans rfl;have hfz32_0:=J BK102.out 0;have hfz32_1:=J BK102.out 1;have hfz32_2:=J BK102.out 2;have hfz32_3:=J BK102.out 3;have hfz32_4:=J BK102.out 4;have hfz32_5:=J BK102.out 5;have hfz32_6:=J BK102.out 6;have hfz32_7:=J BK102.out 7))
      go_ret
      exact⟨by first|rfl|(simp[*,zv,zk] <;> rfl),by repeat(first|(with_reducible first|exact HB.out|apply O|apply U|apply L|refine qq ?_ GE101.out|refine qq ?_ GE102.out)|exact HB.out)⟩
   ·rw[if_neg c6] at H
    have c6b0:(a0_5.toList == a1_5.toList)=false:=beq_eq_false_iff_ne.mpr c6
    have c6b1:(a0_5.toList != a1_5.toList)=true:=bne_iff_ne.mpr c6
    obtain rfl:=Option.some.inj H
    go_enter Try.func33,Try.ntmps33
    go_wp2_with (first|((with_reducible refine gate_dst (N:=2) rfl ?_);refine box_event ?hg (N:=2) ?hd (cs:=#[.slice A0_0 l0_0.length c0_0,.slice A0_1 l0_1.length c0_1,.int .i64 a0_2,.int .i64 a0_3,.string a0_4,.string a0_5,.bool a0_6,.bool a0_7]) (t:=62) ?hr ?_;(case hd=>rfl);(case hg=>rfl);(case hr=>first|(go_simp;done)|(go_simp;rfl));intro gb101 hg w33 hbox hb;have BK101:=X.mk (hbox);have GW101:=X.mk ((by rw[hg];exact(qx (by solve_by_elim only[HB.out,O,U,L])):w.heap.size≤gb101));have GE101:=X.mk ((by rw[hg];exact(qx (by solve_by_elim only[HB.out,O,U,L])):w.heap.size≤gb101));replace HB:=X.mk (qw (by solve_by_elim only[HB.out,O,U,L]) hb);clear hb hbox hg)|((with_reducible refine gate_dst (N:=3) rfl ?_);refine box_event ?hg (N:=3) ?hd (cs:=#[.slice A1_0 l1_0.length c1_0,.slice A1_1 l1_1.length c1_1,.int .i64 a1_2,.int .i64 a1_3,.string a1_4,.string a1_5,.bool a1_6,.bool a1_7]) (t:=62) ?hr ?_;(case hd=>rfl);(case hg=>rfl);(case hr=>first|(go_simp;done)|(go_simp;rfl));intro gb102 hg w34 hbox hb;have BK102:=X.mk (hbox);have GW102:=X.mk ((by rw[hg];exact(qx (by solve_by_elim (maxDepth:=20) only[HB.out,O,U,L,qq,GE101.out])):w.heap.size≤gb102));have GE102:=X.mk ((by rw[hg];exact(qx (by solve_by_elim (maxDepth:=20) only[HB.out,O,U,L,qq,GE101.out])):w.heap.size≤gb102));replace HB:=X.mk (qw (by solve_by_elim (maxDepth:=20) only[HB.out,O,U,L,qq,GE101.out]) hb);have NB101_102:=X.mk ((by rw[hg];exact Nat.ne_of_lt (blk_lt (g:=gb101) (o:=.cells #[.slice A0_0 l0_0.length c0_0,.slice A0_1 l0_1.length c0_1,.int .i64 a0_2,.int .i64 a0_3,.string a0_4,.string a0_5,.bool a0_6,.bool a0_7] 62 (0,0)) (by solve_by_elim only[BK101.out,qj,qk,qz])):gb101≠gb102));have NB102_101:=X.mk ((by rw[hg];exact Nat.ne_of_gt (blk_lt (g:=gb101) (o:=.cells #[.slice A0_0 l0_0.length c0_0,.slice A0_1 l0_1.length c0_1,.int .i64 a0_2,.int .i64 a0_3,.string a0_4,.string a0_5,.bool a0_6,.bool a0_7] 62 (0,0)) (by solve_by_elim only[BK101.out,qj,qk,qz])):gb102≠gb101));replace BK101:=X.mk (kj (g:=gb101) (o:=.cells #[.slice A0_0 l0_0.length c0_0,.slice A0_1 l0_1.length c0_1,.int .i64 a0_2,.int .i64 a0_3,.string a0_4,.string a0_5,.bool a0_6,.bool a0_7] 62 (0,0)) (by solve_by_elim only[BK101.out,qj,qk,qz]) hb);clear hb hbox hg;have hnb35:=NB101_102.out;have hnc35:=NB102_101.out;have hcz36_0:w34.cell? ⟨gb101,0,none⟩ = some (.slice A0_0 l0_0.length c0_0):=(I BK101.out 0).trans rfl;have hcz36_1:w34.cell? ⟨gb101,1,none⟩ = some (.slice A0_1 l0_1.length c0_1):=(I BK101.out 1).trans rfl;have hcz36_2:w34.cell? ⟨gb101,2,none⟩ = some (.int .i64 a0_2):=(I BK101.out 2).trans rfl;have hcz36_3:w34.cell? ⟨gb101,3,none⟩ = some (.int .i64 a0_3):=(I BK101.out 3).trans rfl;have hcz36_4:w34.cell? ⟨gb101,4,none⟩ = some (.string a0_4):=(I BK101.out 4).trans rfl;have hcz36_5:w34.cell? ⟨gb101,5,none⟩ = some (.string a0_5):=(I BK101.out 5).trans rfl;have hcz36_6:w34.cell? ⟨gb101,6,none⟩ = some (.bool a0_6):=(I BK101.out 6).trans rfl;have hcz36_7:w34.cell? ⟨gb101,7,none⟩ = some (.bool a0_7):=(I BK101.out 7).trans rfl;have hfz36_0:=J BK101.out 0;have hfz36_1:=J BK101.out 1;have hfz36_2:=J BK101.out 2;have hfz36_3:=J BK101.out 3;have hfz36_4:=J BK101.out 4;have hfz36_5:=J BK101.out 5;have hfz36_6:=J BK101.out 6;have hfz36_7:=J BK101.out 7;have hcz37_0:w34.cell? ⟨gb102,0,none⟩ = some (.slice A1_0 l1_0.length c1_0):=(I BK102.out 0).trans rfl;have hcz37_1:w34.cell? ⟨gb102,1,none⟩ = some (.slice A1_1 l1_1.length c1_1):=(I BK102.out 1).trans rfl;have hcz37_2:w34.cell? ⟨gb102,2,none⟩ = some (.int .i64 a1_2):=(I BK102.out 2).trans rfl;have hcz37_3:w34.cell? ⟨gb102,3,none⟩ = some (.int .i64 a1_3):=(I BK102.out 3).trans rfl;have hcz37_4:w34.cell? ⟨gb102,4,none⟩ = some (.string a1_4):=(I BK102.out 4).trans rfl;have hcz37_5:w34.cell? ⟨gb102,5,none⟩ = some (.string a1_5):=(I BK102.out 5).trans rfl;have hcz37_6:w34.cell? ⟨gb102,6,none⟩ = some (.bool a1_6):=(I BK102.out 6).trans rfl;have hcz37_7:w34.cell? ⟨gb102,7,none⟩ = some (.bool a1_7):=(I BK102.out 7).trans rfl;have hfz37_0:=J BK102.out 0;have hfz37_1:=J BK102.out 1;have hfz37_2:=J BK102.out 2;have hfz37_3:=J BK102.out 3;have hfz37_4:=J BK102.out 4;have hfz37_5:=J BK102.out 5;have hfz37_6:=J BK102.out 6;have hfz37_7:=J BK102.out 7)|((with_reducible refine zw (f:=22) rfl ?_);refine goesL_ (some 9) rfl rfl Try.func22 (by kernel_rfl) rfl #[.agg #[.slice A0_0 l0_0.length c0_0,.slice A0_1 l0_1.length c0_1,.int .i64 a0_2,.int .i64 a0_3],.agg #[.slice A1_0 l1_0.length c1_0,.slice A1_1 l1_1.length c1_1,.int .i64 a1_2,.int .i64 a1_3]] rfl (by(try simp only[jq0,jq1,jq2]);first|done|rfl|(simp only[jq3,jq4];rfl)) ?_;(with_reducible refine(qzj.calls k _ _ l0_0 _ _ l0_1 a0_2 a0_3 _ _ l1_0 _ _ l1_1 a1_2 a1_3 true _ ?side1 ?side2 ?side3 ?side4 ?side5 ?side6 ?side7 ?side8 A3.out).mono ?_);(case side1=>solve_by_elim only[(Kd.C_below HR0_0.out HB.out),Kd.C_alloc,Kd.C_drewN,Kd.C_drew]);(case side2=>exact HC0_0.out);(case side3=>solve_by_elim only[(Kd.C_below HR0_1.out HB.out),Kd.C_alloc,Kd.C_drewN,Kd.C_drew]);(case side4=>exact HC0_1.out);(case side5=>solve_by_elim only[(Kd.C_below HR1_0.out HB.out),Kd.C_alloc,Kd.C_drewN,Kd.C_drew]);(case side6=>exact HC1_0.out);(case side7=>solve_by_elim only[(Kd.C_below HR1_1.out HB.out),Kd.C_alloc,Kd.C_drewN,Kd.C_drew]);(case side8=>exact HC1_1.out);rintro e w38 ⟨rfl,hb⟩;refine⟨_,rfl,?_⟩;replace BK101:=X.mk (kj (g:=gb101) (o:=.cells #[.slice A0_0 l0_0.length c0_0,.slice A0_1 l0_1.length c0_1,.int .i64 a0_2,.int .i64 a0_3,.string a0_4,.string a0_5,.bool a0_6,.bool a0_7] 62 (0,0)) (by solve_by_elim only[BK101.out,qj,qk,qz]) hb);replace BK102:=X.mk (kj (g:=gb102) (o:=.cells #[.slice A1_0 l1_0.length c1_0,.slice A1_1 l1_1.length c1_1,.int .i64 a1_2,.int .i64 a1_3,.string a1_4,.string a1_5,.bool a1_6,.bool a1_7] 62 (0,0)) (by solve_by_elim only[BK102.out,qj,qk,qz]) hb);replace HB:=X.mk (qw (by solve_by_elim (maxDepth:=20) only[HB.out,O,U,L,qq,GE101.out,qq,GE102.out]) hb);(try clear hb);have hcz39_0:w38.cell? ⟨gb101,0,none⟩ = some (.slice A0_0 l0_0.length c0_0):=(I BK101.out 0).trans rfl;have hcz39_1:w38.cell? ⟨gb101,1,none⟩ = some (.slice A0_1 l0_1.length c0_1):=(I BK101.out 1).trans rfl;have hcz39_2:w38.cell? ⟨gb101,2,none⟩ = some (.int .i64 a0_2):=(I BK101.out 2).trans rfl;have hcz39_3:w38.cell? ⟨gb101,3,none⟩ = some (.int .i64 a0_3):=(I BK101.out 3).trans rfl;have hcz39_4:w38.cell? ⟨gb101,4,none⟩ = some (.string a0_4):=(I BK101.out 4).trans rfl;have hcz39_5:w38.cell? ⟨gb101,5,none⟩ = some (.string a0_5):=(I BK101.out 5).trans rfl;have hcz39_6:w38.cell? ⟨gb101,6,none⟩ = some (.bool a0_6):=(I BK101.out 6).trans rfl;have hcz39_7:w38.cell? ⟨gb101,7,none⟩ = some (.bool a0_7):=(I BK101.out 7).trans rfl;have hfz39_0:=J BK101.out 0;have hfz39_1:=J BK101.out 1;have hfz39_2:=J BK101.out 2;have hfz39_3:=J BK101.out 3;have hfz39_4:=J BK101.out 4;have hfz39_5:=J BK101.out 5;have hfz39_6:=J BK101.out 6;have hfz39_7:=J BK101.out 7;have hcz40_0:w38.cell? ⟨gb102,0,none⟩ = some (.slice A1_0 l1_0.length c1_0):=(I BK102.out 0).trans rfl;have hcz40_1:w38.cell? ⟨gb102,1,none⟩ = some (.slice A1_1 l1_1.length c1_1):=(I BK102.out 1).trans rfl;have hcz40_2:w38.cell? ⟨gb102,2,none⟩ = some (.int .i64 a1_2):=(I BK102.out 2).trans rfl;have hcz40_3:w38.cell? ⟨gb102,3,none⟩ = some (.int .i64 a1_3):=(I BK102.out 3).trans rfl;have hcz40_4:w38.cell? ⟨gb102,4,none⟩ = some (.string a1_4):=(I BK102.out 4).trans rfl;have hcz40_5:w38.cell? ⟨gb102,5,none⟩ = some (.string a1_5):=(I BK102.out 5).trans rfl;have hcz40_6:w38.cell? ⟨gb102,6,none⟩ = some (.bool a1_6):=(I BK102.out 6).trans rfl;have hcz40_7:w38.cell? ⟨gb102,7,none⟩ = some (.bool a1_7):=(I BK102.out 7).trans rfl;have hfz40_0:=J BK102.out 0;have hfz40_1:=J BK102.out 1;have hfz40_2:=J BK102.out 2;have hfz40_3:=J BK102.out 3;have hfz40_4:=J BK102.out 4;have hfz40_5:=J BK102.out 5;have hfz40_6:=J BK102.out 6;have hfz40_7:=J BK102.out 7))
    go_ret
    exact⟨by first|rfl|(simp[*,zv,zk] <;> rfl),by repeat(first|(with_reducible first|exact HB.out|apply O|apply U|apply L|refine qq ?_ GE101.out|refine qq ?_ GE102.out)|exact HB.out)⟩
  ·rw[if_neg c5] at H
   have c5b0:(a0_4.toList == a1_4.toList)=false:=beq_eq_false_iff_ne.mpr c5
   have c5b1:(a0_4.toList != a1_4.toList)=true:=bne_iff_ne.mpr c5
   obtain rfl:=Option.some.inj H
   go_enter Try.func33,Try.ntmps33
   go_wp2_with (first|((with_reducible refine gate_dst (N:=2) rfl ?_);refine box_event ?hg (N:=2) ?hd (cs:=#[.slice A0_0 l0_0.length c0_0,.slice A0_1 l0_1.length c0_1,.int .i64 a0_2,.int .i64 a0_3,.string a0_4,.string a0_5,.bool a0_6,.bool a0_7]) (t:=62) ?hr ?_;(case hd=>rfl);(case hg=>rfl);(case hr=>first|(go_simp;done)|(go_simp;rfl));intro gb101 hg w41 hbox hb;have BK101:=X.mk (hbox);have GW101:=X.mk ((by rw[hg];exact(qx (by solve_by_elim only[HB.out,O,U,L])):w.heap.size≤gb101));have GE101:=X.mk ((by rw[hg];exact(qx (by solve_by_elim only[HB.out,O,U,L])):w.heap.size≤gb101));replace HB:=X.mk (qw (by solve_by_elim only[HB.out,O,U,L]) hb);clear hb hbox hg)|((with_reducible refine gate_dst (N:=3) rfl ?_);refine box_event ?hg (N:=3) ?hd (cs:=#[.slice A1_0 l1_0.length c1_0,.slice A1_1 l1_1.length c1_1,.int .i64 a1_2,.int .i64 a1_3,.string a1_4,.string a1_5,.bool a1_6,.bool a1_7]) (t:=62) ?hr ?_;(case hd=>rfl);(case hg=>rfl);(case hr=>first|(go_simp;done)|(go_simp;rfl));intro gb102 hg w42 hbox hb;have BK102:=X.mk (hbox);have GW102:=X.mk ((by rw[hg];exact(qx (by solve_by_elim (maxDepth:=20) only[HB.out,O,U,L,qq,GE101.out])):w.heap.size≤gb102));have GE102:=X.mk ((by rw[hg];exact(qx (by solve_by_elim (maxDepth:=20) only[HB.out,O,U,L,qq,GE101.out])):w.heap.size≤gb102));replace HB:=X.mk (qw (by solve_by_elim (maxDepth:=20) only[HB.out,O,U,L,qq,GE101.out]) hb);have NB101_102:=X.mk ((by rw[hg];exact Nat.ne_of_lt (blk_lt (g:=gb101) (o:=.cells #[.slice A0_0 l0_0.length c0_0,.slice A0_1 l0_1.length c0_1,.int .i64 a0_2,.int .i64 a0_3,.string a0_4,.string a0_5,.bool a0_6,.bool a0_7] 62 (0,0)) (by solve_by_elim only[BK101.out,qj,qk,qz])):gb101≠gb102));have NB102_101:=X.mk ((by rw[hg];exact Nat.ne_of_gt (blk_lt (g:=gb101) (o:=.cells #[.slice A0_0 l0_0.length c0_0,.slice A0_1 l0_1.length c0_1,.int .i64 a0_2,.int .i64 a0_3,.string a0_4,.string a0_5,.bool a0_6,.bool a0_7] 62 (0,0)) (by solve_by_elim only[BK101.out,qj,qk,qz])):gb102≠gb101));replace BK101:=X.mk (kj (g:=gb101) (o:=.cells #[.slice A0_0 l0_0.length c0_0,.slice A0_1 l0_1.length c0_1,.int .i64 a0_2,.int .i64 a0_3,.string a0_4,.string a0_5,.bool a0_6,.bool a0_7] 62 (0,0)) (by solve_by_elim only[BK101.out,qj,qk,qz]) hb);clear hb hbox hg;have hnb43:=NB101_102.out;have hnc43:=NB102_101.out;have hcz44_0:w42.cell? ⟨gb101,0,none⟩ = some (.slice A0_0 l0_0.length c0_0):=(I BK101.out 0).trans rfl;have hcz44_1:w42.cell? ⟨gb101,1,none⟩ = some (.slice A0_1 l0_1.length c0_1):=(I BK101.out 1).trans rfl;have hcz44_2:w42.cell? ⟨gb101,2,none⟩ = some (.int .i64 a0_2):=(I BK101.out 2).trans rfl;have hcz44_3:w42.cell? ⟨gb101,3,none⟩ = some (.int .i64 a0_3):=(I BK101.out 3).trans rfl;have hcz44_4:w42.cell? ⟨gb101,4,none⟩ = some (.string a0_4):=(I BK101.out 4).trans rfl;have hcz44_5:w42.cell? ⟨gb101,5,none⟩ = some (.string a0_5):=(I BK101.out 5).trans rfl;have hcz44_6:w42.cell? ⟨gb101,6,none⟩ = some (.bool a0_6):=(I BK101.out 6).trans rfl;have hcz44_7:w42.cell? ⟨gb101,7,none⟩ = some (.bool a0_7):=(I BK101.out 7).trans rfl;have hfz44_0:=J BK101.out 0;have hfz44_1:=J BK101.out 1;have hfz44_2:=J BK101.out 2;have hfz44_3:=J BK101.out 3;have hfz44_4:=J BK101.out 4;have hfz44_5:=J BK101.out 5;have hfz44_6:=J BK101.out 6;have hfz44_7:=J BK101.out 7;have hcz45_0:w42.cell? ⟨gb102,0,none⟩ = some (.slice A1_0 l1_0.length c1_0):=(I BK102.out 0).trans rfl;have hcz45_1:w42.cell? ⟨gb102,1,none⟩ = some (.slice A1_1 l1_1.length c1_1):=(I BK102.out 1).trans rfl;have hcz45_2:w42.cell? ⟨gb102,2,none⟩ = some (.int .i64 a1_2):=(I BK102.out 2).trans rfl;have hcz45_3:w42.cell? ⟨gb102,3,none⟩ = some (.int .i64 a1_3):=(I BK102.out 3).trans rfl;have hcz45_4:w42.cell? ⟨gb102,4,none⟩ = some (.string a1_4):=(I BK102.out 4).trans rfl;have hcz45_5:w42.cell? ⟨gb102,5,none⟩ = some (.string a1_5):=(I BK102.out 5).trans rfl;have hcz45_6:w42.cell? ⟨gb102,6,none⟩ = some (.bool a1_6):=(I BK102.out 6).trans rfl;have hcz45_7:w42.cell? ⟨gb102,7,none⟩ = some (.bool a1_7):=(I BK102.out 7).trans rfl;have hfz45_0:=J BK102.out 0;have hfz45_1:=J BK102.out 1;have hfz45_2:=J BK102.out 2;have hfz45_3:=J BK102.out 3;have hfz45_4:=J BK102.out 4;have hfz45_5:=J BK102.out 5;have hfz45_6:=J BK102.out 6;have hfz45_7:=J BK102.out 7)|((with_reducible refine zw (f:=22) rfl ?_);refine goesL_ (some 9) rfl rfl Try.func22 (by kernel_rfl) rfl #[.agg #[.slice A0_0 l0_0.length c0_0,.slice A0_1 l0_1.length c0_1,.int .i64 a0_2,.int .i64 a0_3],.agg #[.slice A1_0 l1_0.length c1_0,.slice A1_1 l1_1.length c1_1,.int .i64 a1_2,.int .i64 a1_3]] rfl (by(try simp only[jq0,jq1,jq2]);first|done|rfl|(simp only[jq3,jq4];rfl)) ?_;(with_reducible refine(qzj.calls k _ _ l0_0 _ _ l0_1 a0_2 a0_3 _ _ l1_0 _ _ l1_1 a1_2 a1_3 true _ ?side1 ?side2 ?side3 ?side4 ?side5 ?side6 ?side7 ?side8 A3.out).mono ?_);(case side1=>solve_by_elim only[(Kd.C_below HR0_0.out HB.out),Kd.C_alloc,Kd.C_drewN,Kd.C_drew]);(case side2=>exact HC0_0.out);(case side3=>solve_by_elim only[(Kd.C_below HR0_1.out HB.out),Kd.C_alloc,Kd.C_drewN,Kd.C_drew]);(case side4=>exact HC0_1.out);(case side5=>solve_by_elim only[(Kd.C_below HR1_0.out HB.out),Kd.C_alloc,Kd.C_drewN,Kd.C_drew]);(case side6=>exact HC1_0.out);(case side7=>solve_by_elim only[(Kd.C_below HR1_1.out HB.out),Kd.C_alloc,Kd.C_drewN,Kd.C_drew]);(case side8=>exact HC1_1.out);rintro e w46 ⟨rfl,hb⟩;refine⟨_,rfl,?_⟩;replace BK101:=X.mk (kj (g:=gb101) (o:=.cells #[.slice A0_0 l0_0.length c0_0,.slice A0_1 l0_1.length c0_1,.int .i64 a0_2,.int .i64 a0_3,.string a0_4,.string a0_5,.bool a0_6,.bool a0_7] 62 (0,0)) (by solve_by_elim only[BK101.out,qj,qk,qz]) hb);replace BK102:=X.mk (kj (g:=gb102) (o:=.cells #[.slice A1_0 l1_0.length c1_0,.slice A1_1 l1_1.length c1_1,.int .i64 a1_2,.int .i64 a1_3,.string a1_4,.string a1_5,.bool a1_6,.bool a1_7] 62 (0,0)) (by solve_by_elim only[BK102.out,qj,qk,qz]) hb);replace HB:=X.mk (qw (by solve_by_elim (maxDepth:=20) only[HB.out,O,U,L,qq,GE101.out,qq,GE102.out]) hb);(try clear hb);have hcz47_0:w46.cell? ⟨gb101,0,none⟩ = some (.slice A0_0 l0_0.length c0_0):=(I BK101.out 0).trans rfl;have hcz47_1:w46.cell? ⟨gb101,1,none⟩ = some (.slice A0_1 l0_1.length c0_1):=(I BK101.out 1).trans rfl;have hcz47_2:w46.cell? ⟨gb101,2,none⟩ = some (.int .i64 a0_2):=(I BK101.out 2).trans rfl;have hcz47_3:w46.cell? ⟨gb101,3,none⟩ = some (.int .i64 a0_3):=(I BK101.out 3).trans rfl;have hcz47_4:w46.cell? ⟨gb101,4,none⟩ = some (.string a0_4):=(I BK101.out 4).trans rfl;have hcz47_5:w46.cell? ⟨gb101,5,none⟩ = some (.string a0_5):=(I BK101.out 5).trans rfl;have hcz47_6:w46.cell? ⟨gb101,6,none⟩ = some (.bool a0_6):=(I BK101.out 6).trans rfl;have hcz47_7:w46.cell? ⟨gb101,7,none⟩ = some (.bool a0_7):=(I BK101.out 7).trans rfl;have hfz47_0:=J BK101.out 0;have hfz47_1:=J BK101.out 1;have hfz47_2:=J BK101.out 2;have hfz47_3:=J BK101.out 3;have hfz47_4:=J BK101.out 4;have hfz47_5:=J BK101.out 5;have hfz47_6:=J BK101.out 6;have hfz47_7:=J BK101.out 7;have hcz48_0:w46.cell? ⟨gb102,0,none⟩ = some (.slice A1_0 l1_0.length c1_0):=(I BK102.out 0).trans rfl;have hcz48_1:w46.cell? ⟨gb102,1,none⟩ = some (.slice A1_1 l1_1.length c1_1):=(I BK102.out 1).trans rfl;have hcz48_2:w46.cell? ⟨gb102,2,none⟩ = some (.int .i64 a1_2):=(I BK102.out 2).trans rfl;have hcz48_3:w46.cell? ⟨gb102,3,none⟩ = some (.int .i64 a1_3):=(I BK102.out 3).trans rfl;have hcz48_4:w46.cell? ⟨gb102,4,none⟩ = some (.string a1_4):=(I BK102.out 4).trans rfl;have hcz48_5:w46.cell? ⟨gb102,5,none⟩ = some (.string a1_5):=(I BK102.out 5).trans rfl;have hcz48_6:w46.cell? ⟨gb102,6,none⟩ = some (.bool a1_6):=(I BK102.out 6).trans rfl;have hcz48_7:w46.cell? ⟨gb102,7,none⟩ = some (.bool a1_7):=(I BK102.out 7).trans rfl;have hfz48_0:=J BK102.out 0;have hfz48_1:=J BK102.out 1;have hfz48_2:=J BK102.out 2;have hfz48_3:=J BK102.out 3;have hfz48_4:=J BK102.out 4;have hfz48_5:=J BK102.out 5;have hfz48_6:=J BK102.out 6;have hfz48_7:=J BK102.out 7))
   go_ret
   exact⟨by first|rfl|(simp[*,zv,zk] <;> rfl),by repeat(first|(with_reducible first|exact HB.out|apply O|apply U|apply L|refine qq ?_ GE101.out|refine qq ?_ GE102.out)|exact HB.out)⟩
 ·replace c4:=jq9.mpr c4
  subst c4
  have H1:(some false)=some r:=by rw[if_neg (show ¬ (false=true) by decide)] at H;exact H
  clear H
  have H:=H1
  clear H1
  obtain rfl:=Option.some.inj H
  go_enter Try.func33,Try.ntmps33
  go_wp2_with (first|((with_reducible refine gate_dst (N:=2) rfl ?_);refine box_event ?hg (N:=2) ?hd (cs:=#[.slice A0_0 l0_0.length c0_0,.slice A0_1 l0_1.length c0_1,.int .i64 a0_2,.int .i64 a0_3,.string a0_4,.string a0_5,.bool a0_6,.bool a0_7]) (t:=62) ?hr ?_;(case hd=>rfl);(case hg=>rfl);(case hr=>first|(go_simp;done)|(go_simp;rfl));intro gb101 hg w49 hbox hb;have BK101:=X.mk (hbox);have GW101:=X.mk ((by rw[hg];exact(qx (by solve_by_elim only[HB.out,O,U,L])):w.heap.size≤gb101));have GE101:=X.mk ((by rw[hg];exact(qx (by solve_by_elim only[HB.out,O,U,L])):w.heap.size≤gb101));replace HB:=X.mk (qw (by solve_by_elim only[HB.out,O,U,L]) hb);clear hb hbox hg)|((with_reducible refine gate_dst (N:=3) rfl ?_);refine box_event ?hg (N:=3) ?hd (cs:=#[.slice A1_0 l1_0.length c1_0,.slice A1_1 l1_1.length c1_1,.int .i64 a1_2,.int .i64 a1_3,.string a1_4,.string a1_5,.bool a1_6,.bool a1_7]) (t:=62) ?hr ?_;(case hd=>rfl);(case hg=>rfl);(case hr=>first|(go_simp;done)|(go_simp;rfl));intro gb102 hg w50 hbox hb;have BK102:=X.mk (hbox);have GW102:=X.mk ((by rw[hg];exact(qx (by solve_by_elim (maxDepth:=20) only[HB.out,O,U,L,qq,GE101.out])):w.heap.size≤gb102));have GE102:=X.mk ((by rw[hg];exact(qx (by solve_by_elim (maxDepth:=20) only[HB.out,O,U,L,qq,GE101.out])):w.heap.size≤gb102));replace HB:=X.mk (qw (by solve_by_elim (maxDepth:=20) only[HB.out,O,U,L,qq,GE101.out]) hb);have NB101_102:=X.mk ((by rw[hg];exact Nat.ne_of_lt (blk_lt (g:=gb101) (o:=.cells #[.slice A0_0 l0_0.length c0_0,.slice A0_1 l0_1.length c0_1,.int .i64 a0_2,.int .i64 a0_3,.string a0_4,.string a0_5,.bool a0_6,.bool a0_7] 62 (0,0)) (by solve_by_elim only[BK101.out,qj,qk,qz])):gb101≠gb102));have NB102_101:=X.mk ((by rw[hg];exact Nat.ne_of_gt (blk_lt (g:=gb101) (o:=.cells #[.slice A0_0 l0_0.length c0_0,.slice A0_1 l0_1.length c0_1,.int .i64 a0_2,.int .i64 a0_3,.string a0_4,.string a0_5,.bool a0_6,.bool a0_7] 62 (0,0)) (by solve_by_elim only[BK101.out,qj,qk,qz])):gb102≠gb101));replace BK101:=X.mk (kj (g:=gb101) (o:=.cells #[.slice A0_0 l0_0.length c0_0,.slice A0_1 l0_1.length c0_1,.int .i64 a0_2,.int .i64 a0_3,.string a0_4,.string a0_5,.bool a0_6,.bool a0_7] 62 (0,0)) (by solve_by_elim only[BK101.out,qj,qk,qz]) hb);clear hb hbox hg;have hnb51:=NB101_102.out;have hnc51:=NB102_101.out;have hcz52_0:w50.cell? ⟨gb101,0,none⟩ = some (.slice A0_0 l0_0.length c0_0):=(I BK101.out 0).trans rfl;have hcz52_1:w50.cell? ⟨gb101,1,none⟩ = some (.slice A0_1 l0_1.length c0_1):=(I BK101.out 1).trans rfl;have hcz52_2:w50.cell? ⟨gb101,2,none⟩ = some (.int .i64 a0_2):=(I BK101.out 2).trans rfl;have hcz52_3:w50.cell? ⟨gb101,3,none⟩ = some (.int .i64 a0_3):=(I BK101.out 3).trans rfl;have hcz52_4:w50.cell? ⟨gb101,4,none⟩ = some (.string a0_4):=(I BK101.out 4).trans rfl;have hcz52_5:w50.cell? ⟨gb101,5,none⟩ = some (.string a0_5):=(I BK101.out 5).trans rfl;have hcz52_6:w50.cell? ⟨gb101,6,none⟩ = some (.bool a0_6):=(I BK101.out 6).trans rfl;have hcz52_7:w50.cell? ⟨gb101,7,none⟩ = some (.bool a0_7):=(I BK101.out 7).trans rfl;have hfz52_0:=J BK101.out 0;have hfz52_1:=J BK101.out 1;have hfz52_2:=J BK101.out 2;have hfz52_3:=J BK101.out 3;have hfz52_4:=J BK101.out 4;have hfz52_5:=J BK101.out 5;have hfz52_6:=J BK101.out 6;have hfz52_7:=J BK101.out 7;have hcz53_0:w50.cell? ⟨gb102,0,none⟩ = some (.slice A1_0 l1_0.length c1_0):=(I BK102.out 0).trans rfl;have hcz53_1:w50.cell? ⟨gb102,1,none⟩ = some (.slice A1_1 l1_1.length c1_1):=(I BK102.out 1).trans rfl;have hcz53_2:w50.cell? ⟨gb102,2,none⟩ = some (.int .i64 a1_2):=(I BK102.out 2).trans rfl;have hcz53_3:w50.cell? ⟨gb102,3,none⟩ = some (.int .i64 a1_3):=(I BK102.out 3).trans rfl;have hcz53_4:w50.cell? ⟨gb102,4,none⟩ = some (.string a1_4):=(I BK102.out 4).trans rfl;have hcz53_5:w50.cell? ⟨gb102,5,none⟩ = some (.string a1_5):=(I BK102.out 5).trans rfl;have hcz53_6:w50.cell? ⟨gb102,6,none⟩ = some (.bool a1_6):=(I BK102.out 6).trans rfl;have hcz53_7:w50.cell? ⟨gb102,7,none⟩ = some (.bool a1_7):=(I BK102.out 7).trans rfl;have hfz53_0:=J BK102.out 0;have hfz53_1:=J BK102.out 1;have hfz53_2:=J BK102.out 2;have hfz53_3:=J BK102.out 3;have hfz53_4:=J BK102.out 4;have hfz53_5:=J BK102.out 5;have hfz53_6:=J BK102.out 6;have hfz53_7:=J BK102.out 7)|((with_reducible refine zw (f:=22) rfl ?_);refine goesL_ (some 9) rfl rfl Try.func22 (by kernel_rfl) rfl #[.agg #[.slice A0_0 l0_0.length c0_0,.slice A0_1 l0_1.length c0_1,.int .i64 a0_2,.int .i64 a0_3],.agg #[.slice A1_0 l1_0.length c1_0,.slice A1_1 l1_1.length c1_1,.int .i64 a1_2,.int .i64 a1_3]] rfl (by(try simp only[jq0,jq1,jq2]);first|done|rfl|(simp only[jq3,jq4];rfl)) ?_;(with_reducible refine(qzj.calls k _ _ l0_0 _ _ l0_1 a0_2 a0_3 _ _ l1_0 _ _ l1_1 a1_2 a1_3 false _ ?side1 ?side2 ?side3 ?side4 ?side5 ?side6 ?side7 ?side8 A3.out).mono ?_);(case side1=>solve_by_elim only[(Kd.C_below HR0_0.out HB.out),Kd.C_alloc,Kd.C_drewN,Kd.C_drew]);(case side2=>exact HC0_0.out);(case side3=>solve_by_elim only[(Kd.C_below HR0_1.out HB.out),Kd.C_alloc,Kd.C_drewN,Kd.C_drew]);(case side4=>exact HC0_1.out);(case side5=>solve_by_elim only[(Kd.C_below HR1_0.out HB.out),Kd.C_alloc,Kd.C_drewN,Kd.C_drew]);(case side6=>exact HC1_0.out);(case side7=>solve_by_elim only[(Kd.C_below HR1_1.out HB.out),Kd.C_alloc,Kd.C_drewN,Kd.C_drew]);(case side8=>exact HC1_1.out);rintro e w54 ⟨rfl,hb⟩;refine⟨_,rfl,?_⟩;replace BK101:=X.mk (kj (g:=gb101) (o:=.cells #[.slice A0_0 l0_0.length c0_0,.slice A0_1 l0_1.length c0_1,.int .i64 a0_2,.int .i64 a0_3,.string a0_4,.string a0_5,.bool a0_6,.bool a0_7] 62 (0,0)) (by solve_by_elim only[BK101.out,qj,qk,qz]) hb);replace BK102:=X.mk (kj (g:=gb102) (o:=.cells #[.slice A1_0 l1_0.length c1_0,.slice A1_1 l1_1.length c1_1,.int .i64 a1_2,.int .i64 a1_3,.string a1_4,.string a1_5,.bool a1_6,.bool a1_7] 62 (0,0)) (by solve_by_elim only[BK102.out,qj,qk,qz]) hb);replace HB:=X.mk (qw (by solve_by_elim (maxDepth:=20) only[HB.out,O,U,L,qq,GE101.out,qq,GE102.out]) hb);(try clear hb)))
  go_ret
  exact⟨by first|rfl|(simp[*,zv,zk] <;> rfl),by repeat(first|(with_reducible first|exact HB.out|apply O|apply U|apply L|refine qq ?_ GE101.out|refine qq ?_ GE102.out)|exact HB.out)⟩
def qqk.f (k:Nat) (l0_0:List (S96)) (l0_1:List Int) (a0_2:Int) (a0_3:Int) (a0_4:ByteArray) (a0_5:ByteArray) (a0_6:Bool) (a0_7:Bool):Option (Bool):=(qzv.f k l0_0 l0_1 a0_2 a0_3 a0_4 a0_5 a0_6 a0_7 1048576).bind fun t102=>(if t102 < 0 then(some true) else((qjv.f k l0_0 l0_1 a0_2 a0_3 a0_4 a0_5 a0_6 a0_7).bind fun bt103=>((qkx.f k bt103.1 bt103.2.1 bt103.2.2.1 bt103.2.2.2.1 bt103.2.2.2.2.1 bt103.2.2.2.2.2.1 bt103.2.2.2.2.2.2.1 bt103.2.2.2.2.2.2.2).bind fun t115=>((qjv.f k l0_0 l0_1 a0_2 a0_3 a0_4 a0_5 a0_6 a0_7).bind fun bt116=>((wz.f k bt116.1 bt116.2.1 bt116.2.2.1 bt116.2.2.2.1 bt116.2.2.2.2.1 bt116.2.2.2.2.2.1 bt116.2.2.2.2.2.2.1 bt116.2.2.2.2.2.2.2).bind fun t129=>(if (t129 != t115)=true then(none) else((qjv.f k l0_0 l0_1 a0_2 a0_3 a0_4 a0_5 a0_6 a0_7).bind fun bt130=>((qqv.f k bt116.1 bt116.2.1 bt116.2.2.1 bt116.2.2.2.1 bt116.2.2.2.2.1 bt116.2.2.2.2.2.1 bt116.2.2.2.2.2.2.1 bt116.2.2.2.2.2.2.2 bt130.1 bt130.2.1 bt130.2.2.1 bt130.2.2.2.1 bt130.2.2.2.2.1 bt130.2.2.2.2.2.1 bt130.2.2.2.2.2.2.1 bt130.2.2.2.2.2.2.2).bind fun t142=>(if t142=true then(some true) else(none))))))))))
theorem qqk.calls (k:Nat) (A0_0:Option Addr) (c0_0:Nat) (l0_0:List (S96)) (A0_1:Option Addr) (c0_1:Nat) (l0_1:List Int) (a0_2:Int) (a0_3:Int) (a0_4:ByteArray) (a0_5:ByteArray) (a0_6:Bool) (a0_7:Bool) (r:Bool) (w:World) (hr0_0:Kd.C k96 w A0_0 l0_0.length l0_0) (hc0_0:l0_0.length≤c0_0) (hr0_1:Kd.C (Kd.int .u8) w A0_1 l0_1.length l0_1) (hc0_1:l0_1.length≤c0_1) (h:qqk.f k l0_0 l0_1 a0_2 a0_3 a0_4 a0_5 a0_6 a0_7=some r) :
  Calls Try.prog 7 #[.agg #[.slice A0_0 l0_0.length c0_0,.slice A0_1 l0_1.length c0_1,.int .i64 a0_2,.int .i64 a0_3,.string a0_4,.string a0_5,.bool a0_6,.bool a0_7]] w fun e w'=>e=.returned (.bool r)∧Below w.heap.size w w':=by
 have hu58:=Try.underlying58
 have hu62:=Try.underlying62
 have HR0_0:=X.mk hr0_0
 have HC0_0:=X.mk hc0_0
 clear hr0_0 hc0_0
 have HR0_1:=X.mk hr0_1
 have HC0_1:=X.mk hc0_1
 clear hr0_1 hc0_1
 have HB:=X.mk (Below.refl w.heap.size w)
 unfold qqk.f at h
 have H:=h
 clear h
 replace H:=jq8.mp H
 obtain⟨t102,A20,H⟩:=H
 try dsimp only at H
 have A2:=X.mk A20
 clear A20
 by_cases c3:t102 < 0
 ·rw[if_pos c3] at H
  have c3b0:decide (t102 < 0)=true:=decide_eq_true c3
  clear c3
  obtain rfl:=Option.some.inj H
  go_enter Try.func7,Try.ntmps7
  go_wp2_with (first|((with_reducible refine gate_dst (N:=1) rfl ?_);refine box_event ?hg (N:=1) ?hd (cs:=#[.slice A0_0 l0_0.length c0_0,.slice A0_1 l0_1.length c0_1,.int .i64 a0_2,.int .i64 a0_3,.string a0_4,.string a0_5,.bool a0_6,.bool a0_7]) (t:=58) ?hr ?_;(case hd=>rfl);(case hg=>rfl);(case hr=>first|(go_simp;done)|(go_simp;rfl));intro gb101 hg w4 hbox hb;have BK101:=X.mk (hbox);have GW101:=X.mk ((by rw[hg];exact(qx (by repeat(first|(with_reducible first|exact HB.out|apply O|apply U|apply L)|exact HB.out))):w.heap.size≤gb101));have GE101:=X.mk ((by rw[hg];exact(qx (by repeat(first|(with_reducible first|exact HB.out|apply O|apply U|apply L)|exact HB.out))):w.heap.size≤gb101));replace HB:=X.mk (qw (by repeat(first|(with_reducible first|exact HB.out|apply O|apply U|apply L)|exact HB.out)) hb);clear hb hbox hg;have hcz5_0:w4.cell? ⟨gb101,0,none⟩ = some (.slice A0_0 l0_0.length c0_0):=(I BK101.out 0).trans rfl;have hcz5_1:w4.cell? ⟨gb101,1,none⟩ = some (.slice A0_1 l0_1.length c0_1):=(I BK101.out 1).trans rfl;have hcz5_2:w4.cell? ⟨gb101,2,none⟩ = some (.int .i64 a0_2):=(I BK101.out 2).trans rfl;have hcz5_3:w4.cell? ⟨gb101,3,none⟩ = some (.int .i64 a0_3):=(I BK101.out 3).trans rfl;have hcz5_4:w4.cell? ⟨gb101,4,none⟩ = some (.string a0_4):=(I BK101.out 4).trans rfl;have hcz5_5:w4.cell? ⟨gb101,5,none⟩ = some (.string a0_5):=(I BK101.out 5).trans rfl;have hcz5_6:w4.cell? ⟨gb101,6,none⟩ = some (.bool a0_6):=(I BK101.out 6).trans rfl;have hcz5_7:w4.cell? ⟨gb101,7,none⟩ = some (.bool a0_7):=(I BK101.out 7).trans rfl;have hfz5_0:=J BK101.out 0;have hfz5_1:=J BK101.out 1;have hfz5_2:=J BK101.out 2;have hfz5_3:=J BK101.out 3;have hfz5_4:=J BK101.out 4;have hfz5_5:=J BK101.out 5;have hfz5_6:=J BK101.out 6;have hfz5_7:=J BK101.out 7)|((with_reducible refine zw (f:=29) rfl ?_);refine goesL_ (some 9) rfl rfl Try.func29 (by kernel_rfl) rfl #[.agg #[.slice A0_0 l0_0.length c0_0,.slice A0_1 l0_1.length c0_1,.int .i64 a0_2,.int .i64 a0_3,.string a0_4,.string a0_5,.bool a0_6,.bool a0_7],.int .i64 1048576] rfl (by(try simp only[jq0,jq1,jq2]);first|done|rfl|(simp only[jq3,jq4];rfl)) ?_;(with_reducible refine(qzv.calls k _ _ l0_0 _ _ l0_1 a0_2 a0_3 a0_4 a0_5 a0_6 a0_7 1048576 t102 _ ?side1 ?side2 ?side3 ?side4 A2.out).mono ?_);(case side1=>solve_by_elim only[(Kd.C_below HR0_0.out HB.out),Kd.C_alloc,Kd.C_drewN,Kd.C_drew]);(case side2=>exact HC0_0.out);(case side3=>solve_by_elim only[(Kd.C_below HR0_1.out HB.out),Kd.C_alloc,Kd.C_drewN,Kd.C_drew]);(case side4=>exact HC0_1.out);rintro e w6 ⟨rfl,hb⟩;refine⟨_,rfl,?_⟩;replace BK101:=X.mk (kj (g:=gb101) (o:=.cells #[.slice A0_0 l0_0.length c0_0,.slice A0_1 l0_1.length c0_1,.int .i64 a0_2,.int .i64 a0_3,.string a0_4,.string a0_5,.bool a0_6,.bool a0_7] 58 (0,0)) (by(with_reducible repeat(first|refine qj ?_ _|refine qk ?_|refine qz ?_ _));exact BK101.out) hb);replace HB:=X.mk (qw (by repeat(first|(with_reducible first|exact HB.out|apply O|apply U|apply L|refine qq ?_ GE101.out)|exact HB.out)) hb);(try clear hb)))
  go_ret
  exact⟨by first|rfl|(simp[*,zv,zk] <;> rfl),by repeat(first|(with_reducible first|exact HB.out|apply O|apply U|apply L|refine qq ?_ GE101.out)|exact HB.out)⟩
 ·rw[if_neg c3] at H
  have c3b0:decide (t102 < 0)=false:=decide_eq_false c3
  clear c3
  replace H:=jq8.mp H
  obtain⟨⟨t103,t106,t109,t110,t111,t112,t113,t114⟩,A70,H⟩:=H
  try dsimp only at H
  have A7:=X.mk A70
  clear A70
  replace H:=jq8.mp H
  obtain⟨t115,A80,H⟩:=H
  try dsimp only at H
  have A8:=X.mk A80
  clear A80
  replace H:=jq8.mp H
  obtain⟨⟨t116,t119,t122,t123,t124,t125,t126,t127⟩,A90,H⟩:=H
  try dsimp only at H
  have A9:=X.mk A90
  clear A90
  replace H:=jq8.mp H
  obtain⟨t129,A100,H⟩:=H
  try dsimp only at H
  have A10:=X.mk A100
  clear A100
  by_cases c11:(t129 != t115)=true
  ·rw[if_pos c11] at H
   exact absurd H (by simp)
  ·rw[if_neg c11] at H
   have c11b0:(t129 != t115)=false:=by simpa using c11
   (try (have c11b1:decide (t129=t115)=true:=by simpa using c11))
   (try (have c11b2:(t129 == t115)=true:=by simpa using c11))
   clear c11
   replace H:=jq8.mp H
   obtain⟨⟨t130,t133,t136,t137,t138,t139,t140,t141⟩,A120,H⟩:=H
   try dsimp only at H
   have A12:=X.mk A120
   clear A120
   replace H:=jq8.mp H
   obtain⟨t142,A130,H⟩:=H
   try dsimp only at H
   have A13:=X.mk A130
   clear A130
   by_cases c14:t142=true
   ·subst c14
    have H1:(some true)=some r:=by rw[if_pos rfl] at H;exact H
    clear H
    have H:=H1
    clear H1
    obtain rfl:=Option.some.inj H
    go_enter Try.func7,Try.ntmps7
    try go_wp2_with (first|((with_reducible refine gate_dst (N:=1) rfl ?_);refine box_event ?hg (N:=1) ?hd (cs:=#[.slice A0_0 l0_0.length c0_0,.slice A0_1 l0_1.length c0_1,.int .i64 a0_2,.int .i64 a0_3,.string a0_4,.string a0_5,.bool a0_6,.bool a0_7]) (t:=58) ?hr ?_;(case hd=>rfl);(case hg=>rfl);(case hr=>first|(go_simp;done)|(go_simp;rfl));intro gb101 hg w15 hbox hb;have BK101:=X.mk (hbox);have GW101:=X.mk ((by rw[hg];exact(qx (by repeat(first|(with_reducible first|exact HB.out|apply O|apply U|apply L)|exact HB.out))):w.heap.size≤gb101));have GE101:=X.mk ((by rw[hg];exact(qx (by repeat(first|(with_reducible first|exact HB.out|apply O|apply U|apply L)|exact HB.out))):w.heap.size≤gb101));replace HB:=X.mk (qw (by repeat(first|(with_reducible first|exact HB.out|apply O|apply U|apply L)|exact HB.out)) hb);clear hb hbox hg;have hcz16_0:w15.cell? ⟨gb101,0,none⟩ = some (.slice A0_0 l0_0.length c0_0):=(I BK101.out 0).trans rfl;have hcz16_1:w15.cell? ⟨gb101,1,none⟩ = some (.slice A0_1 l0_1.length c0_1):=(I BK101.out 1).trans rfl;have hcz16_2:w15.cell? ⟨gb101,2,none⟩ = some (.int .i64 a0_2):=(I BK101.out 2).trans rfl;have hcz16_3:w15.cell? ⟨gb101,3,none⟩ = some (.int .i64 a0_3):=(I BK101.out 3).trans rfl;have hcz16_4:w15.cell? ⟨gb101,4,none⟩ = some (.string a0_4):=(I BK101.out 4).trans rfl;have hcz16_5:w15.cell? ⟨gb101,5,none⟩ = some (.string a0_5):=(I BK101.out 5).trans rfl;have hcz16_6:w15.cell? ⟨gb101,6,none⟩ = some (.bool a0_6):=(I BK101.out 6).trans rfl;have hcz16_7:w15.cell? ⟨gb101,7,none⟩ = some (.bool a0_7):=(I BK101.out 7).trans rfl;have hfz16_0:=J BK101.out 0;have hfz16_1:=J BK101.out 1;have hfz16_2:=J BK101.out 2;have hfz16_3:=J BK101.out 3;have hfz16_4:=J BK101.out 4;have hfz16_5:=J BK101.out 5;have hfz16_6:=J BK101.out 6;have hfz16_7:=J BK101.out 7)|((with_reducible refine zw (f:=29) rfl ?_);refine goesL_ (some 9) rfl rfl Try.func29 (by kernel_rfl) rfl #[.agg #[.slice A0_0 l0_0.length c0_0,.slice A0_1 l0_1.length c0_1,.int .i64 a0_2,.int .i64 a0_3,.string a0_4,.string a0_5,.bool a0_6,.bool a0_7],.int .i64 1048576] rfl (by(try simp only[jq0,jq1,jq2]);first|done|rfl|(simp only[jq3,jq4];rfl)) ?_;(with_reducible refine(qzv.calls k _ _ l0_0 _ _ l0_1 a0_2 a0_3 a0_4 a0_5 a0_6 a0_7 1048576 t102 _ ?side1 ?side2 ?side3 ?side4 A2.out).mono ?_);(case side1=>solve_by_elim only[(Kd.C_below HR0_0.out HB.out),Kd.C_alloc,Kd.C_drewN,Kd.C_drew]);(case side2=>exact HC0_0.out);(case side3=>solve_by_elim only[(Kd.C_below HR0_1.out HB.out),Kd.C_alloc,Kd.C_drewN,Kd.C_drew]);(case side4=>exact HC0_1.out);rintro e w17 ⟨rfl,hb⟩;refine⟨_,rfl,?_⟩;replace BK101:=X.mk (kj (g:=gb101) (o:=.cells #[.slice A0_0 l0_0.length c0_0,.slice A0_1 l0_1.length c0_1,.int .i64 a0_2,.int .i64 a0_3,.string a0_4,.string a0_5,.bool a0_6,.bool a0_7] 58 (0,0)) (by(with_reducible repeat(first|refine qj ?_ _|refine qk ?_|refine qz ?_ _));exact BK101.out) hb);replace HB:=X.mk (qw (by repeat(first|(with_reducible first|exact HB.out|apply O|apply U|apply L|refine qq ?_ GE101.out)|exact HB.out)) hb);(try clear hb);have hcz18_0:w17.cell? ⟨gb101,0,none⟩ = some (.slice A0_0 l0_0.length c0_0):=(I BK101.out 0).trans rfl;have hcz18_1:w17.cell? ⟨gb101,1,none⟩ = some (.slice A0_1 l0_1.length c0_1):=(I BK101.out 1).trans rfl;have hcz18_2:w17.cell? ⟨gb101,2,none⟩ = some (.int .i64 a0_2):=(I BK101.out 2).trans rfl;have hcz18_3:w17.cell? ⟨gb101,3,none⟩ = some (.int .i64 a0_3):=(I BK101.out 3).trans rfl;have hcz18_4:w17.cell? ⟨gb101,4,none⟩ = some (.string a0_4):=(I BK101.out 4).trans rfl;have hcz18_5:w17.cell? ⟨gb101,5,none⟩ = some (.string a0_5):=(I BK101.out 5).trans rfl;have hcz18_6:w17.cell? ⟨gb101,6,none⟩ = some (.bool a0_6):=(I BK101.out 6).trans rfl;have hcz18_7:w17.cell? ⟨gb101,7,none⟩ = some (.bool a0_7):=(I BK101.out 7).trans rfl;have hfz18_0:=J BK101.out 0;have hfz18_1:=J BK101.out 1;have hfz18_2:=J BK101.out 2;have hfz18_3:=J BK101.out 3;have hfz18_4:=J BK101.out 4;have hfz18_5:=J BK101.out 5;have hfz18_6:=J BK101.out 6;have hfz18_7:=J BK101.out 7)|((with_reducible refine zw (f:=31) rfl ?_);refine goesL_ (some 13) rfl rfl Try.func31 (by kernel_rfl) rfl #[.agg #[.slice A0_0 l0_0.length c0_0,.slice A0_1 l0_1.length c0_1,.int .i64 a0_2,.int .i64 a0_3,.string a0_4,.string a0_5,.bool a0_6,.bool a0_7]] rfl (by(try simp only[jq0,jq1,jq2]);first|done|rfl|(simp only[jq3,jq4];rfl)) ?_;(with_reducible refine(qjv.calls k _ _ l0_0 _ _ l0_1 a0_2 a0_3 a0_4 a0_5 a0_6 a0_7 t103 t106 t109 t110 t111 t112 t113 t114 _ ?side1 ?side2 ?side3 ?side4 A7.out).mono ?_);(case side1=>solve_by_elim only[(Kd.C_below HR0_0.out HB.out),Kd.C_alloc,Kd.C_drewN,Kd.C_drew]);(case side2=>exact HC0_0.out);(case side3=>solve_by_elim only[(Kd.C_below HR0_1.out HB.out),Kd.C_alloc,Kd.C_drewN,Kd.C_drew]);(case side4=>exact HC0_1.out);rintro e w19 ⟨v104,v107,rfl,ho0,ho1,hb⟩;refine⟨_,rfl,?_⟩;have HO105:=X.mk (Kd.S_lower ho0 (qx (by repeat(first|(with_reducible first|exact HB.out|apply O|apply U|apply L|refine qq ?_ GE101.out)|exact HB.out))));have HO108:=X.mk (Kd.R_lower ho1 (qx (by repeat(first|(with_reducible first|exact HB.out|apply O|apply U|apply L|refine qq ?_ GE101.out)|exact HB.out))));replace BK101:=X.mk (kj (g:=gb101) (o:=.cells #[.slice A0_0 l0_0.length c0_0,.slice A0_1 l0_1.length c0_1,.int .i64 a0_2,.int .i64 a0_3,.string a0_4,.string a0_5,.bool a0_6,.bool a0_7] 58 (0,0)) (by(with_reducible repeat(first|refine qj ?_ _|refine qk ?_|refine qz ?_ _));exact BK101.out) hb);replace HB:=X.mk (qw (by repeat(first|(with_reducible first|exact HB.out|apply O|apply U|apply L|refine qq ?_ GE101.out)|exact HB.out)) hb);(try clear hb ho0 ho1);obtain⟨Ao20,co20,eo20⟩:=Kd.S_slice HO105.out;subst eo20;obtain⟨Ao21,co21,eo21⟩:=Kd.R_slice HO108.out;subst eo21)|((with_reducible refine zw (f:=30) rfl ?_);refine goesL_ (some 14) rfl rfl Try.func30 (by kernel_rfl) rfl #[.agg #[.slice Ao20 t103.length co20,.slice Ao21 t106.length co21,.int .i64 t109,.int .i64 t110,.string t111,.string t112,.bool t113,.bool t114]] rfl (by(try simp only[jq0,jq1,jq2]);first|done|rfl|(simp only[jq3,jq4];rfl)) ?_;(with_reducible refine(qkx.calls k _ _ t103 _ _ t106 t109 t110 t111 t112 t113 t114 t115 _ ?side1 ?side2 ?side3 ?side4 A8.out).mono ?_);(case side1=>solve_by_elim only[(Kd.S_reads' HO105.out).2.2,Kd.C_alloc,Kd.C_drewN,Kd.C_drew]);(case side2=>exact(Kd.S_reads' HO105.out).2.1);(case side3=>solve_by_elim only[(Kd.R_reads' HO108.out).2.2,Kd.C_alloc,Kd.C_drewN,Kd.C_drew]);(case side4=>exact(Kd.R_reads' HO108.out).2.1);rintro e w22 ⟨rfl,hb⟩;refine⟨_,rfl,?_⟩;replace HO105:=X.mk (Kd.S_below (by(with_reducible repeat(first|apply Kd.jk|apply Kd.jj|apply Kd.jv));exact HO105.out) hb);replace HO108:=X.mk (Kd.R_below (by(with_reducible repeat(first|apply Kd.zz|apply Kd.zq|apply Kd.zj));exact HO108.out) hb);replace BK101:=X.mk (kj (g:=gb101) (o:=.cells #[.slice A0_0 l0_0.length c0_0,.slice A0_1 l0_1.length c0_1,.int .i64 a0_2,.int .i64 a0_3,.string a0_4,.string a0_5,.bool a0_6,.bool a0_7] 58 (0,0)) (by(with_reducible repeat(first|refine qj ?_ _|refine qk ?_|refine qz ?_ _));exact BK101.out) hb);replace HB:=X.mk (qw (by repeat(first|(with_reducible first|exact HB.out|apply O|apply U|apply L|refine qq ?_ GE101.out)|exact HB.out)) hb);(try clear hb);have hcz23_0:w22.cell? ⟨gb101,0,none⟩ = some (.slice A0_0 l0_0.length c0_0):=(I BK101.out 0).trans rfl;have hcz23_1:w22.cell? ⟨gb101,1,none⟩ = some (.slice A0_1 l0_1.length c0_1):=(I BK101.out 1).trans rfl;have hcz23_2:w22.cell? ⟨gb101,2,none⟩ = some (.int .i64 a0_2):=(I BK101.out 2).trans rfl;have hcz23_3:w22.cell? ⟨gb101,3,none⟩ = some (.int .i64 a0_3):=(I BK101.out 3).trans rfl;have hcz23_4:w22.cell? ⟨gb101,4,none⟩ = some (.string a0_4):=(I BK101.out 4).trans rfl;have hcz23_5:w22.cell? ⟨gb101,5,none⟩ = some (.string a0_5):=(I BK101.out 5).trans rfl;have hcz23_6:w22.cell? ⟨gb101,6,none⟩ = some (.bool a0_6):=(I BK101.out 6).trans rfl;have hcz23_7:w22.cell? ⟨gb101,7,none⟩ = some (.bool a0_7):=(I BK101.out 7).trans rfl;have hfz23_0:=J BK101.out 0;have hfz23_1:=J BK101.out 1;have hfz23_2:=J BK101.out 2;have hfz23_3:=J BK101.out 3;have hfz23_4:=J BK101.out 4;have hfz23_5:=J BK101.out 5;have hfz23_6:=J BK101.out 6;have hfz23_7:=J BK101.out 7)|((with_reducible refine zw (f:=31) rfl ?_);refine goesL_ (some 16) rfl rfl Try.func31 (by kernel_rfl) rfl #[.agg #[.slice A0_0 l0_0.length c0_0,.slice A0_1 l0_1.length c0_1,.int .i64 a0_2,.int .i64 a0_3,.string a0_4,.string a0_5,.bool a0_6,.bool a0_7]] rfl (by(try simp only[jq0,jq1,jq2]);first|done|rfl|(simp only[jq3,jq4];rfl)) ?_;(with_reducible refine(qjv.calls k _ _ l0_0 _ _ l0_1 a0_2 a0_3 a0_4 a0_5 a0_6 a0_7 t116 t119 t122 t123 t124 t125 t126 t127 _ ?side1 ?side2 ?side3 ?side4 A9.out).mono ?_);(case side1=>solve_by_elim only[(Kd.C_below HR0_0.out HB.out),Kd.C_alloc,Kd.C_drewN,Kd.C_drew]);(case side2=>exact HC0_0.out);(case side3=>solve_by_elim only[(Kd.C_below HR0_1.out HB.out),Kd.C_alloc,Kd.C_drewN,Kd.C_drew]);(case side4=>exact HC0_1.out);rintro e w24 ⟨v117,v120,rfl,ho0,ho1,hb⟩;refine⟨_,rfl,?_⟩;have HO118:=X.mk (Kd.S_lower (Kd.S_new' (Kd.S_new' ho0 (Kd.S_lt (by(with_reducible repeat(first|apply Kd.jk|apply Kd.jj|apply Kd.jv));exact HO105.out))) (Kd.R_lt (by(with_reducible repeat(first|apply Kd.zz|apply Kd.zq|apply Kd.zj));exact HO108.out))) (qx (by repeat(first|(with_reducible first|exact HB.out|apply O|apply U|apply L|refine qq ?_ GE101.out)|exact HB.out))));replace HO105:=X.mk (Kd.S_mono (Kd.S_told (Kd.S_told (Kd.S_old (by(with_reducible repeat(first|apply Kd.jk|apply Kd.jj|apply Kd.jv));exact HO105.out) hb) (Kd.S_base ho0)) (Kd.R_base ho1)) (fun _ h_=>h_.1));have HO121:=X.mk (Kd.R_lower (Kd.R_new' ho1 (Kd.R_lt (by(with_reducible repeat(first|apply Kd.zz|apply Kd.zq|apply Kd.zj));exact HO108.out))) (qx (by repeat(first|(with_reducible first|exact HB.out|apply O|apply U|apply L|refine qq ?_ GE101.out)|exact HB.out))));replace HO108:=X.mk (Kd.R_elder' (by(with_reducible repeat(first|apply Kd.zz|apply Kd.zq|apply Kd.zj));exact HO108.out) (Kd.R_base ho1) hb);replace BK101:=X.mk (kj (g:=gb101) (o:=.cells #[.slice A0_0 l0_0.length c0_0,.slice A0_1 l0_1.length c0_1,.int .i64 a0_2,.int .i64 a0_3,.string a0_4,.string a0_5,.bool a0_6,.bool a0_7] 58 (0,0)) (by(with_reducible repeat(first|refine qj ?_ _|refine qk ?_|refine qz ?_ _));exact BK101.out) hb);replace HB:=X.mk (qw (by repeat(first|(with_reducible first|exact HB.out|apply O|apply U|apply L|refine qq ?_ GE101.out)|exact HB.out)) hb);(try clear hb ho0 ho1))|((with_reducible refine gate_dst (N:=5) rfl ?_);refine box_event ?hg (N:=5) ?hd (cs:=#[.slice none 0 0,.slice none 0 0,.int .i64 0,.int .i64 0,.string (⟨#[]⟩ : ByteArray),.string (⟨#[]⟩ : ByteArray),.bool false,.bool false]) (t:=62) ?hr ?_;(case hd=>rfl);(case hg=>rfl);(case hr=>first|(go_simp;done)|(go_simp;rfl));intro gb128 hg w25 hbox hb;replace HO105:=X.mk (Kd.S_below (by(with_reducible repeat(first|apply Kd.jk|apply Kd.jj|apply Kd.jv));exact HO105.out) hb);replace HO108:=X.mk (Kd.R_below (by(with_reducible repeat(first|apply Kd.zz|apply Kd.zq|apply Kd.zj));exact HO108.out) hb);replace HO118:=X.mk (Kd.S_below (by(with_reducible repeat(first|apply Kd.jk|apply Kd.jj|apply Kd.jv));exact HO118.out) hb);replace HO121:=X.mk (Kd.R_below (by(with_reducible repeat(first|apply Kd.zz|apply Kd.zq|apply Kd.zj));exact HO121.out) hb);have BK128:=X.mk (hbox);have GW128:=X.mk ((by rw[hg];exact(qx (by repeat(first|(with_reducible first|exact HB.out|apply O|apply U|apply L|refine qq ?_ GE101.out)|exact HB.out))):w.heap.size≤gb128));have GE128:=X.mk ((by rw[hg];exact(qx (by repeat(first|(with_reducible first|exact HB.out|apply O|apply U|apply L|refine qq ?_ GE101.out)|exact HB.out))):w.heap.size≤gb128));replace HB:=X.mk (qw (by repeat(first|(with_reducible first|exact HB.out|apply O|apply U|apply L|refine qq ?_ GE101.out)|exact HB.out)) hb);have NB101_128:=X.mk ((by rw[hg];exact Nat.ne_of_lt (blk_lt (g:=gb101) (o:=.cells #[.slice A0_0 l0_0.length c0_0,.slice A0_1 l0_1.length c0_1,.int .i64 a0_2,.int .i64 a0_3,.string a0_4,.string a0_5,.bool a0_6,.bool a0_7] 58 (0,0)) (by(with_reducible repeat(first|refine qj ?_ _|refine qk ?_|refine qz ?_ _));exact BK101.out)):gb101≠gb128));have NB128_101:=X.mk ((by rw[hg];exact Nat.ne_of_gt (blk_lt (g:=gb101) (o:=.cells #[.slice A0_0 l0_0.length c0_0,.slice A0_1 l0_1.length c0_1,.int .i64 a0_2,.int .i64 a0_3,.string a0_4,.string a0_5,.bool a0_6,.bool a0_7] 58 (0,0)) (by(with_reducible repeat(first|refine qj ?_ _|refine qk ?_|refine qz ?_ _));exact BK101.out)):gb128≠gb101));replace BK101:=X.mk (kj (g:=gb101) (o:=.cells #[.slice A0_0 l0_0.length c0_0,.slice A0_1 l0_1.length c0_1,.int .i64 a0_2,.int .i64 a0_3,.string a0_4,.string a0_5,.bool a0_6,.bool a0_7] 58 (0,0)) (by(with_reducible repeat(first|refine qj ?_ _|refine qk ?_|refine qz ?_ _));exact BK101.out) hb);clear hb hbox hg;obtain⟨Ao26,co26,eo26⟩:=Kd.S_slice HO118.out;subst eo26;have hnb27:=NB128_101.out;have hnc27:=NB101_128.out;have hcz28_0:w25.cell? ⟨gb128,0,none⟩ = some (.slice none 0 0):=(I BK128.out 0).trans rfl;have hcz28_1:w25.cell? ⟨gb128,1,none⟩ = some (.slice none 0 0):=(I BK128.out 1).trans rfl;have hcz28_2:w25.cell? ⟨gb128,2,none⟩ = some (.int .i64 0):=(I BK128.out 2).trans rfl;have hcz28_3:w25.cell? ⟨gb128,3,none⟩ = some (.int .i64 0):=(I BK128.out 3).trans rfl;have hcz28_4:w25.cell? ⟨gb128,4,none⟩ = some (.string (⟨#[]⟩ : ByteArray)):=(I BK128.out 4).trans rfl;have hcz28_5:w25.cell? ⟨gb128,5,none⟩ = some (.string (⟨#[]⟩ : ByteArray)):=(I BK128.out 5).trans rfl;have hcz28_6:w25.cell? ⟨gb128,6,none⟩ = some (.bool false):=(I BK128.out 6).trans rfl;have hcz28_7:w25.cell? ⟨gb128,7,none⟩ = some (.bool false):=(I BK128.out 7).trans rfl;have hfz28_0:=J BK128.out 0;have hfz28_1:=J BK128.out 1;have hfz28_2:=J BK128.out 2;have hfz28_3:=J BK128.out 3;have hfz28_4:=J BK128.out 4;have hfz28_5:=J BK128.out 5;have hfz28_6:=J BK128.out 6;have hfz28_7:=J BK128.out 7;obtain⟨Ao29,co29,eo29⟩:=Kd.R_slice HO121.out;subst eo29)|((with_reducible refine zw (f:=32) rfl ?_);refine goesL_ (some 18) rfl rfl Try.func32 (by kernel_rfl) rfl #[.agg #[.slice Ao26 t116.length co26,.slice Ao29 t119.length co29,.int .i64 t122,.int .i64 t123,.string t124,.string t125,.bool t126,.bool t127]] rfl (by(try simp only[jq0,jq1,jq2]);first|done|rfl|(simp only[jq3,jq4];rfl)) ?_;(with_reducible refine(wz.calls k _ _ t116 _ _ t119 t122 t123 t124 t125 t126 t127 t129 _ ?side1 ?side2 ?side3 ?side4 A10.out).mono ?_);(case side1=>refine(Kd.S_reads' (e:=77) (base:=w.heap.size) (ok:=fun k_=>((some k_≠(.slice Ao29 t119.length co29:Value).ownBlock∧some k_≠(.slice Ao20 t103.length co20:Value).ownBlock)∧some k_≠(.slice Ao21 t106.length co21:Value).ownBlock)) (n:=t116.length) (c:=co26) ?_).2.2;exact(by(with_reducible repeat(first|apply Kd.jk|apply Kd.jj|apply Kd.jv));exact(Kd.S_mono (Kd.S_far (p:=⟨gb128,7,none⟩) (Kd.S_far (p:=⟨gb128,6,none⟩) (Kd.S_far (p:=⟨gb128,5,none⟩) (Kd.S_far (p:=⟨gb128,4,none⟩) (Kd.S_far (p:=⟨gb128,3,none⟩) (Kd.S_far (p:=⟨gb128,2,none⟩) (Kd.S_far (p:=⟨gb128,1,none⟩) (Kd.S_far (p:=⟨gb128,0,none⟩) (Kd.S_types HO118.out BK128.out (by decide)) (fun _ hk=>hk.2) (.slice Ao26 t116.length co26)) (fun _ hk=>hk.2) (.slice Ao29 t119.length co29)) (fun _ hk=>hk.2) (.int .i64 t122)) (fun _ hk=>hk.2) (.int .i64 t123)) (fun _ hk=>hk.2) (.string t124)) (fun _ hk=>hk.2) (.string t125)) (fun _ hk=>hk.2) (.bool t126)) (fun _ hk=>hk.2) (.bool t127)) (fun _ h_=>h_.1))));(case side2=>exact(Kd.S_reads' HO118.out).2.1);(case side3=>refine(Kd.R_reads' (e:=5) (base:=w.heap.size) (ok:=fun k_=>(True∧some k_≠(.slice Ao21 t106.length co21:Value).ownBlock)) (n:=t119.length) (c:=co29) ?_).2.2;exact(by(with_reducible repeat(first|apply Kd.zz|apply Kd.zq|apply Kd.zj));exact(Kd.R_mono (Kd.R_far (p:=⟨gb128,7,none⟩) (Kd.R_far (p:=⟨gb128,6,none⟩) (Kd.R_far (p:=⟨gb128,5,none⟩) (Kd.R_far (p:=⟨gb128,4,none⟩) (Kd.R_far (p:=⟨gb128,3,none⟩) (Kd.R_far (p:=⟨gb128,2,none⟩) (Kd.R_far (p:=⟨gb128,1,none⟩) (Kd.R_far (p:=⟨gb128,0,none⟩) (Kd.R_types HO121.out BK128.out (by decide)) (fun _ hk=>hk.2) (.slice Ao26 t116.length co26)) (fun _ hk=>hk.2) (.slice Ao29 t119.length co29)) (fun _ hk=>hk.2) (.int .i64 t122)) (fun _ hk=>hk.2) (.int .i64 t123)) (fun _ hk=>hk.2) (.string t124)) (fun _ hk=>hk.2) (.string t125)) (fun _ hk=>hk.2) (.bool t126)) (fun _ hk=>hk.2) (.bool t127)) (fun _ h_=>h_.1))));(case side4=>exact(Kd.R_reads' HO121.out).2.1);rintro e w30 ⟨rfl,hb⟩;refine⟨_,rfl,?_⟩;replace HO105:=X.mk (Kd.S_below (by(with_reducible repeat(first|apply Kd.jk|apply Kd.jj|apply Kd.jv));exact(Kd.S_mono (Kd.S_far (p:=⟨gb128,7,none⟩) (Kd.S_far (p:=⟨gb128,6,none⟩) (Kd.S_far (p:=⟨gb128,5,none⟩) (Kd.S_far (p:=⟨gb128,4,none⟩) (Kd.S_far (p:=⟨gb128,3,none⟩) (Kd.S_far (p:=⟨gb128,2,none⟩) (Kd.S_far (p:=⟨gb128,1,none⟩) (Kd.S_far (p:=⟨gb128,0,none⟩) (Kd.S_types HO105.out BK128.out (by decide)) (fun _ hk=>hk.2) (.slice Ao26 t116.length co26)) (fun _ hk=>hk.2) (.slice Ao29 t119.length co29)) (fun _ hk=>hk.2) (.int .i64 t122)) (fun _ hk=>hk.2) (.int .i64 t123)) (fun _ hk=>hk.2) (.string t124)) (fun _ hk=>hk.2) (.string t125)) (fun _ hk=>hk.2) (.bool t126)) (fun _ hk=>hk.2) (.bool t127)) (fun _ h_=>h_.1))) hb);replace HO108:=X.mk (Kd.R_below (by(with_reducible repeat(first|apply Kd.zz|apply Kd.zq|apply Kd.zj));exact(Kd.R_mono (Kd.R_far (p:=⟨gb128,7,none⟩) (Kd.R_far (p:=⟨gb128,6,none⟩) (Kd.R_far (p:=⟨gb128,5,none⟩) (Kd.R_far (p:=⟨gb128,4,none⟩) (Kd.R_far (p:=⟨gb128,3,none⟩) (Kd.R_far (p:=⟨gb128,2,none⟩) (Kd.R_far (p:=⟨gb128,1,none⟩) (Kd.R_far (p:=⟨gb128,0,none⟩) (Kd.R_types HO108.out BK128.out (by decide)) (fun _ hk=>hk.2) (.slice Ao26 t116.length co26)) (fun _ hk=>hk.2) (.slice Ao29 t119.length co29)) (fun _ hk=>hk.2) (.int .i64 t122)) (fun _ hk=>hk.2) (.int .i64 t123)) (fun _ hk=>hk.2) (.string t124)) (fun _ hk=>hk.2) (.string t125)) (fun _ hk=>hk.2) (.bool t126)) (fun _ hk=>hk.2) (.bool t127)) (fun _ h_=>h_.1))) hb);replace HO118:=X.mk (Kd.S_below (by(with_reducible repeat(first|apply Kd.jk|apply Kd.jj|apply Kd.jv));exact(Kd.S_mono (Kd.S_far (p:=⟨gb128,7,none⟩) (Kd.S_far (p:=⟨gb128,6,none⟩) (Kd.S_far (p:=⟨gb128,5,none⟩) (Kd.S_far (p:=⟨gb128,4,none⟩) (Kd.S_far (p:=⟨gb128,3,none⟩) (Kd.S_far (p:=⟨gb128,2,none⟩) (Kd.S_far (p:=⟨gb128,1,none⟩) (Kd.S_far (p:=⟨gb128,0,none⟩) (Kd.S_types HO118.out BK128.out (by decide)) (fun _ hk=>hk.2) (.slice Ao26 t116.length co26)) (fun _ hk=>hk.2) (.slice Ao29 t119.length co29)) (fun _ hk=>hk.2) (.int .i64 t122)) (fun _ hk=>hk.2) (.int .i64 t123)) (fun _ hk=>hk.2) (.string t124)) (fun _ hk=>hk.2) (.string t125)) (fun _ hk=>hk.2) (.bool t126)) (fun _ hk=>hk.2) (.bool t127)) (fun _ h_=>h_.1))) hb);replace HO121:=X.mk (Kd.R_below (by(with_reducible repeat(first|apply Kd.zz|apply Kd.zq|apply Kd.zj));exact(Kd.R_mono (Kd.R_far (p:=⟨gb128,7,none⟩) (Kd.R_far (p:=⟨gb128,6,none⟩) (Kd.R_far (p:=⟨gb128,5,none⟩) (Kd.R_far (p:=⟨gb128,4,none⟩) (Kd.R_far (p:=⟨gb128,3,none⟩) (Kd.R_far (p:=⟨gb128,2,none⟩) (Kd.R_far (p:=⟨gb128,1,none⟩) (Kd.R_far (p:=⟨gb128,0,none⟩) (Kd.R_types HO121.out BK128.out (by decide)) (fun _ hk=>hk.2) (.slice Ao26 t116.length co26)) (fun _ hk=>hk.2) (.slice Ao29 t119.length co29)) (fun _ hk=>hk.2) (.int .i64 t122)) (fun _ hk=>hk.2) (.int .i64 t123)) (fun _ hk=>hk.2) (.string t124)) (fun _ hk=>hk.2) (.string t125)) (fun _ hk=>hk.2) (.bool t126)) (fun _ hk=>hk.2) (.bool t127)) (fun _ h_=>h_.1))) hb);replace BK101:=X.mk (kj (g:=gb101) (o:=.cells #[.slice A0_0 l0_0.length c0_0,.slice A0_1 l0_1.length c0_1,.int .i64 a0_2,.int .i64 a0_3,.string a0_4,.string a0_5,.bool a0_6,.bool a0_7] 58 (0,0)) (by(with_reducible repeat(first|refine qj ?_ _|refine qk ?_|refine qz ?_ _));refine blk_far ?_ NB101_128.out _;(with_reducible repeat(first|refine qj ?_ _|refine qk ?_|refine qz ?_ _));refine blk_far ?_ NB101_128.out _;(with_reducible repeat(first|refine qj ?_ _|refine qk ?_|refine qz ?_ _));refine blk_far ?_ NB101_128.out _;(with_reducible repeat(first|refine qj ?_ _|refine qk ?_|refine qz ?_ _));refine blk_far ?_ NB101_128.out _;(with_reducible repeat(first|refine qj ?_ _|refine qk ?_|refine qz ?_ _));refine blk_far ?_ NB101_128.out _;(with_reducible repeat(first|refine qj ?_ _|refine qk ?_|refine qz ?_ _));refine blk_far ?_ NB101_128.out _;(with_reducible repeat(first|refine qj ?_ _|refine qk ?_|refine qz ?_ _));refine blk_far ?_ NB101_128.out _;(with_reducible repeat(first|refine qj ?_ _|refine qk ?_|refine qz ?_ _));refine blk_far ?_ NB101_128.out _;(with_reducible repeat(first|refine qj ?_ _|refine qk ?_|refine qz ?_ _));exact BK101.out) hb);replace BK128:=X.mk (kj (g:=gb128) (o:=.cells #[.slice Ao26 t116.length co26,.slice Ao29 t119.length co29,.int .i64 t122,.int .i64 t123,.string t124,.string t125,.bool t126,.bool t127] 62 (0,0)) (by(with_reducible repeat(first|refine qj ?_ _|refine qk ?_|refine qz ?_ _));refine blk_put (cs:=#[.slice Ao26 t116.length co26,.slice Ao29 t119.length co29,.int .i64 t122,.int .i64 t123,.string t124,.string t125,.bool t126,.bool false]) ?_ 7 _ rfl;(with_reducible repeat(first|refine qj ?_ _|refine qk ?_|refine qz ?_ _));refine blk_put (cs:=#[.slice Ao26 t116.length co26,.slice Ao29 t119.length co29,.int .i64 t122,.int .i64 t123,.string t124,.string t125,.bool false,.bool false]) ?_ 6 _ rfl;(with_reducible repeat(first|refine qj ?_ _|refine qk ?_|refine qz ?_ _));refine blk_put (cs:=#[.slice Ao26 t116.length co26,.slice Ao29 t119.length co29,.int .i64 t122,.int .i64 t123,.string t124,.string (⟨#[]⟩ : ByteArray),.bool false,.bool false]) ?_ 5 _ rfl;(with_reducible repeat(first|refine qj ?_ _|refine qk ?_|refine qz ?_ _));refine blk_put (cs:=#[.slice Ao26 t116.length co26,.slice Ao29 t119.length co29,.int .i64 t122,.int .i64 t123,.string (⟨#[]⟩ : ByteArray),.string (⟨#[]⟩ : ByteArray),.bool false,.bool false]) ?_ 4 _ rfl;(with_reducible repeat(first|refine qj ?_ _|refine qk ?_|refine qz ?_ _));refine blk_put (cs:=#[.slice Ao26 t116.length co26,.slice Ao29 t119.length co29,.int .i64 t122,.int .i64 0,.string (⟨#[]⟩ : ByteArray),.string (⟨#[]⟩ : ByteArray),.bool false,.bool false]) ?_ 3 _ rfl;(with_reducible repeat(first|refine qj ?_ _|refine qk ?_|refine qz ?_ _));refine blk_put (cs:=#[.slice Ao26 t116.length co26,.slice Ao29 t119.length co29,.int .i64 0,.int .i64 0,.string (⟨#[]⟩ : ByteArray),.string (⟨#[]⟩ : ByteArray),.bool false,.bool false]) ?_ 2 _ rfl;(with_reducible repeat(first|refine qj ?_ _|refine qk ?_|refine qz ?_ _));refine blk_put (cs:=#[.slice Ao26 t116.length co26,.slice none 0 0,.int .i64 0,.int .i64 0,.string (⟨#[]⟩ : ByteArray),.string (⟨#[]⟩ : ByteArray),.bool false,.bool false]) ?_ 1 _ rfl;(with_reducible repeat(first|refine qj ?_ _|refine qk ?_|refine qz ?_ _));refine blk_put (cs:=#[.slice none 0 0,.slice none 0 0,.int .i64 0,.int .i64 0,.string (⟨#[]⟩ : ByteArray),.string (⟨#[]⟩ : ByteArray),.bool false,.bool false]) ?_ 0 _ rfl;(with_reducible repeat(first|refine qj ?_ _|refine qk ?_|refine qz ?_ _));exact BK128.out) hb);replace HB:=X.mk (qw (by repeat(first|(with_reducible first|exact HB.out|apply O|apply U|apply L|refine qq ?_ GE101.out|refine qq ?_ GE128.out)|exact HB.out)) hb);(try clear hb)))
    replace HO105:=X.mk (Kd.jv HO105.out)
    replace HO108:=X.mk (Kd.zj HO108.out)
    replace HO118:=X.mk (Kd.jv HO118.out)
    replace HO121:=X.mk (Kd.zj HO121.out)
    replace BK101:=X.mk (qk BK101.out)
    replace BK128:=X.mk (qk BK128.out)
    replace HB:=X.mk (L HB.out)
    refine start_ (n:=5) (S:=fun w'=>w'.cell? ⟨gb128,0,none⟩ = some (.slice Ao26 t116.length co26)∧w'.cell? ⟨gb128,1,none⟩ = some (.slice Ao29 t119.length co29)∧w'.cell? ⟨gb128,2,none⟩ = some (.int .i64 t122)∧w'.cell? ⟨gb128,3,none⟩ = some (.int .i64 t123)∧w'.cell? ⟨gb128,4,none⟩ = some (.string t124)∧w'.cell? ⟨gb128,5,none⟩ = some (.string t125)∧w'.cell? ⟨gb128,6,none⟩ = some (.bool t126)∧w'.cell? ⟨gb128,7,none⟩ = some (.bool t127)∧w'.cell? ⟨gb101,0,none⟩ = some (.slice A0_0 l0_0.length c0_0)∧w'.cell? ⟨gb101,1,none⟩ = some (.slice A0_1 l0_1.length c0_1)∧w'.cell? ⟨gb101,2,none⟩ = some (.int .i64 a0_2)∧w'.cell? ⟨gb101,3,none⟩ = some (.int .i64 a0_3)∧w'.cell? ⟨gb101,4,none⟩ = some (.string a0_4)∧w'.cell? ⟨gb101,5,none⟩ = some (.string a0_5)∧w'.cell? ⟨gb101,6,none⟩ = some (.bool a0_6)∧w'.cell? ⟨gb101,7,none⟩ = some (.bool a0_7)) (ds:=[]) #[Y,Y,Y,Y,Y] (by kernel_rfl) rfl rfl ⟨(I BK128.out 0).trans rfl,(I BK128.out 1).trans rfl,(I BK128.out 2).trans rfl,(I BK128.out 3).trans rfl,(I BK128.out 4).trans rfl,(I BK128.out 5).trans rfl,(I BK128.out 6).trans rfl,(I BK128.out 7).trans rfl,(I BK101.out 0).trans rfl,(I BK101.out 1).trans rfl,(I BK101.out 2).trans rfl,(I BK101.out 3).trans rfl,(I BK101.out 4).trans rfl,(I BK101.out 5).trans rfl,(I BK101.out 6).trans rfl,(I BK101.out 7).trans rfl⟩ (fun hHeld=>?_)
    generalize w30.drew=w31 at HO105 HO108 HO118 HO121 BK101 BK128 HB hHeld ⊢
    refine take_ (i:=0) (N:=some 22) (v:=?_) (a':=?_) #[Z,Y,Y,Y,Y] rfl rfl (by kernel_rfl) (fun _ _ _ h=>h) (Or.inl ⟨by rfl,?_⟩) hHeld ?_ ?_
    rotate_left
    ·rintro w' ⟨s0,s1,s2,s3,s4,s5,s6,s7,s8,s9,s10,s11,s12,s13,s14,s15⟩
     go_simp
     with_reducible rfl
    rotate_left
    ·simp only[Act.put,jq5,jq6,jq7,i64_w,i32_w]
     rfl
    refine take_ (i:=1) (N:=some 23) (v:=?_) (a':=?_) #[Z,Z,Y,Y,Y] rfl rfl (by kernel_rfl) (fun _ _ _ h=>h) (Or.inl ⟨by rfl,?_⟩) hHeld ?_ ?_
    rotate_left
    ·rintro w' ⟨s0,s1,s2,s3,s4,s5,s6,s7,s8,s9,s10,s11,s12,s13,s14,s15⟩
     go_simp
     with_reducible rfl
    rotate_left
    ·simp only[Act.put,jq5,jq6,jq7,i64_w,i32_w]
     rfl
    refine one_ (i:=2) (N:=some 24) #[Z,Z,Z,Y,Y] rfl rfl (by kernel_rfl) (by decide) (fun K hK=>?_)
    refine goes_ Try.func31 (by kernel_rfl) rfl #[.agg #[.slice A0_0 l0_0.length c0_0,.slice A0_1 l0_1.length c0_1,.int .i64 a0_2,.int .i64 a0_3,.string a0_4,.string a0_5,.bool a0_6,.bool a0_7]] (by rfl) rfl rfl (by(try simp only[jq0,jq1,jq2]);first|done|rfl|(simp only[jq3,jq4];rfl)) ?_
    with_reducible refine(qjv.calls k _ _ l0_0 _ _ l0_1 a0_2 a0_3 a0_4 a0_5 a0_6 a0_7 t130 t133 t136 t137 t138 t139 t140 t141 _ ?side1 ?side2 ?side3 ?side4 A12.out).mono ?_
    (case side1=>solve_by_elim only[(Kd.C_below HR0_0.out HB.out),Kd.C_alloc,Kd.C_drewN,Kd.C_drew])
    (case side2=>exact HC0_0.out)
    (case side3=>solve_by_elim only[(Kd.C_below HR0_1.out HB.out),Kd.C_alloc,Kd.C_drewN,Kd.C_drew])
    (case side4=>exact HC0_1.out)
    rintro e w32 ⟨v131,v134,rfl,ho0,ho1,hb⟩
    refine⟨_,rfl,?_⟩
    have HO132:=X.mk (Kd.S_lower (Kd.S_new' (Kd.S_new' (Kd.S_new' (Kd.S_new' ho0 (Kd.S_lt (by(with_reducible repeat(first|apply Kd.jk|apply Kd.jj|apply Kd.jv));exact HO105.out))) (Kd.R_lt (by(with_reducible repeat(first|apply Kd.zz|apply Kd.zq|apply Kd.zj));exact HO108.out))) (Kd.S_lt (by(with_reducible repeat(first|apply Kd.jk|apply Kd.jj|apply Kd.jv));exact HO118.out))) (Kd.R_lt (by(with_reducible repeat(first|apply Kd.zz|apply Kd.zq|apply Kd.zj));exact HO121.out))) (qx (by repeat(first|(with_reducible first|exact HB.out|apply O|apply U|apply L|refine qq ?_ GE101.out|refine qq ?_ GE128.out)|exact HB.out))))
    replace HO105:=X.mk (Kd.S_mono (Kd.S_told (Kd.S_told (Kd.S_old (by(with_reducible repeat(first|apply Kd.jk|apply Kd.jj|apply Kd.jv));exact HO105.out) hb) (Kd.S_base ho0)) (Kd.R_base ho1)) (fun _ h_=>h_.1))
    replace HO118:=X.mk (Kd.S_mono (Kd.S_told (Kd.S_told (Kd.S_old (by(with_reducible repeat(first|apply Kd.jk|apply Kd.jj|apply Kd.jv));exact HO118.out) hb) (Kd.S_base ho0)) (Kd.R_base ho1)) (fun _ h_=>h_.1))
    have HO135:=X.mk (Kd.R_lower (Kd.R_new' (Kd.R_new' ho1 (Kd.R_lt (by(with_reducible repeat(first|apply Kd.zz|apply Kd.zq|apply Kd.zj));exact HO108.out))) (Kd.R_lt (by(with_reducible repeat(first|apply Kd.zz|apply Kd.zq|apply Kd.zj));exact HO121.out))) (qx (by repeat(first|(with_reducible first|exact HB.out|apply O|apply U|apply L|refine qq ?_ GE101.out|refine qq ?_ GE128.out)|exact HB.out))))
    replace HO108:=X.mk (Kd.R_elder' (by(with_reducible repeat(first|apply Kd.zz|apply Kd.zq|apply Kd.zj));exact HO108.out) (Kd.R_base ho1) hb)
    replace HO121:=X.mk (Kd.R_elder' (by(with_reducible repeat(first|apply Kd.zz|apply Kd.zq|apply Kd.zj));exact HO121.out) (Kd.R_base ho1) hb)
    replace BK101:=X.mk (kj (g:=gb101) (o:=.cells #[.slice A0_0 l0_0.length c0_0,.slice A0_1 l0_1.length c0_1,.int .i64 a0_2,.int .i64 a0_3,.string a0_4,.string a0_5,.bool a0_6,.bool a0_7] 58 (0,0)) (by(with_reducible repeat(first|refine qj ?_ _|refine qk ?_|refine qz ?_ _));exact BK101.out) hb)
    replace BK128:=X.mk (kj (g:=gb128) (o:=.cells #[.slice Ao26 t116.length co26,.slice Ao29 t119.length co29,.int .i64 t122,.int .i64 t123,.string t124,.string t125,.bool t126,.bool t127] 62 (0,0)) (by(with_reducible repeat(first|refine qj ?_ _|refine qk ?_|refine qz ?_ _));exact BK128.out) hb)
    replace HB:=X.mk (qw (by repeat(first|(with_reducible first|exact HB.out|apply O|apply U|apply L|refine qq ?_ GE101.out|refine qq ?_ GE128.out)|exact HB.out)) hb)
    (try clear hb)
    (try clear hb2)
    (try clear hk)
    (try clear hi)
    (try clear ho0)
    (try clear ho1)
    obtain⟨Ao33,co33,eo33⟩:=Kd.S_slice HO132.out
    (first|subst eo33|(injection eo33 with f1_ f2_ f3_;have f4_:=f1_.symm;have f5_:=f3_.symm;clear f1_ f2_ f3_;subst f4_;subst f5_))
    obtain⟨Ao34,co34,eo34⟩:=Kd.R_slice HO135.out
    (first|subst eo34|(injection eo34 with f1_ f2_ f3_;have f4_:=f1_.symm;have f5_:=f3_.symm;clear f1_ f2_ f3_;subst f4_;subst f5_))
    refine hK.out _ _ ⟨(I BK128.out 0).trans rfl,(I BK128.out 1).trans rfl,(I BK128.out 2).trans rfl,(I BK128.out 3).trans rfl,(I BK128.out 4).trans rfl,(I BK128.out 5).trans rfl,(I BK128.out 6).trans rfl,(I BK128.out 7).trans rfl,(I BK101.out 0).trans rfl,(I BK101.out 1).trans rfl,(I BK101.out 2).trans rfl,(I BK101.out 3).trans rfl,(I BK101.out 4).trans rfl,(I BK101.out 5).trans rfl,(I BK101.out 6).trans rfl,(I BK101.out 7).trans rfl⟩ (fun hHeld=>?_)
    clear hK K
    refine norm_ (a':=?_) ?_ ?_
    rotate_left
    ·show Act.put _ (some 24) _=_
     simp only[Act.put,jq5,jq6,jq7,i64_w,i32_w]
     rfl
    refine one_ (i:=3) (N:=some 25) #[Z,Z,Z,Z,Y] rfl rfl (by kernel_rfl) (by decide) (fun K hK=>?_)
    refine goes_ Try.func33 (by kernel_rfl) rfl #[.agg #[.slice Ao26 t116.length co26,.slice Ao29 t119.length co29,.int .i64 t122,.int .i64 t123,.string t124,.string t125,.bool t126,.bool t127],.agg #[.slice Ao33 t130.length co33,.slice Ao34 t133.length co34,.int .i64 t136,.int .i64 t137,.string t138,.string t139,.bool t140,.bool t141]] (by rfl) rfl rfl (by(try simp only[jq0,jq1,jq2]);first|done|rfl|(simp only[jq3,jq4];rfl)) ?_
    with_reducible refine(qqv.calls k _ _ t116 _ _ t119 t122 t123 t124 t125 t126 t127 _ _ t130 _ _ t133 t136 t137 t138 t139 t140 t141 true _ ?side1 ?side2 ?side3 ?side4 ?side5 ?side6 ?side7 ?side8 A13.out).mono ?_
    (case side1=>solve_by_elim only[(Kd.S_reads' HO118.out).2.2,Kd.C_alloc,Kd.C_drewN,Kd.C_drew])
    (case side2=>exact(Kd.S_reads' HO118.out).2.1)
    (case side3=>solve_by_elim only[(Kd.R_reads' HO121.out).2.2,Kd.C_alloc,Kd.C_drewN,Kd.C_drew])
    (case side4=>exact(Kd.R_reads' HO121.out).2.1)
    (case side5=>solve_by_elim only[(Kd.S_reads' HO132.out).2.2,Kd.C_alloc,Kd.C_drewN,Kd.C_drew])
    (case side6=>exact(Kd.S_reads' HO132.out).2.1)
    (case side7=>solve_by_elim only[(Kd.R_reads' HO135.out).2.2,Kd.C_alloc,Kd.C_drewN,Kd.C_drew])
    (case side8=>exact(Kd.R_reads' HO135.out).2.1)
    rintro e w35 ⟨rfl,hb⟩
    refine⟨_,rfl,?_⟩
    replace HO105:=X.mk (Kd.S_below (by(with_reducible repeat(first|apply Kd.jk|apply Kd.jj|apply Kd.jv));exact HO105.out) hb)
    replace HO108:=X.mk (Kd.R_below (by(with_reducible repeat(first|apply Kd.zz|apply Kd.zq|apply Kd.zj));exact HO108.out) hb)
    replace HO118:=X.mk (Kd.S_below (by(with_reducible repeat(first|apply Kd.jk|apply Kd.jj|apply Kd.jv));exact HO118.out) hb)
    replace HO121:=X.mk (Kd.R_below (by(with_reducible repeat(first|apply Kd.zz|apply Kd.zq|apply Kd.zj));exact HO121.out) hb)
    replace HO132:=X.mk (Kd.S_below (by(with_reducible repeat(first|apply Kd.jk|apply Kd.jj|apply Kd.jv));exact HO132.out) hb)
    replace HO135:=X.mk (Kd.R_below (by(with_reducible repeat(first|apply Kd.zz|apply Kd.zq|apply Kd.zj));exact HO135.out) hb)
    replace BK101:=X.mk (kj (g:=gb101) (o:=.cells #[.slice A0_0 l0_0.length c0_0,.slice A0_1 l0_1.length c0_1,.int .i64 a0_2,.int .i64 a0_3,.string a0_4,.string a0_5,.bool a0_6,.bool a0_7] 58 (0,0)) (by(with_reducible repeat(first|refine qj ?_ _|refine qk ?_|refine qz ?_ _));exact BK101.out) hb)
    replace BK128:=X.mk (kj (g:=gb128) (o:=.cells #[.slice Ao26 t116.length co26,.slice Ao29 t119.length co29,.int .i64 t122,.int .i64 t123,.string t124,.string t125,.bool t126,.bool t127] 62 (0,0)) (by(with_reducible repeat(first|refine qj ?_ _|refine qk ?_|refine qz ?_ _));exact BK128.out) hb)
    replace HB:=X.mk (qw (by repeat(first|(with_reducible first|exact HB.out|apply O|apply U|apply L|refine qq ?_ GE101.out|refine qq ?_ GE128.out)|exact HB.out)) hb)
    (try clear hb)
    (try clear hb2)
    (try clear hk)
    (try clear hi)
    refine hK.out _ _ ⟨(I BK128.out 0).trans rfl,(I BK128.out 1).trans rfl,(I BK128.out 2).trans rfl,(I BK128.out 3).trans rfl,(I BK128.out 4).trans rfl,(I BK128.out 5).trans rfl,(I BK128.out 6).trans rfl,(I BK128.out 7).trans rfl,(I BK101.out 0).trans rfl,(I BK101.out 1).trans rfl,(I BK101.out 2).trans rfl,(I BK101.out 3).trans rfl,(I BK101.out 4).trans rfl,(I BK101.out 5).trans rfl,(I BK101.out 6).trans rfl,(I BK101.out 7).trans rfl⟩ (fun hHeld=>?_)
    clear hK K
    refine norm_ (a':=?_) ?_ ?_
    rotate_left
    ·show Act.put _ (some 25) _=_
     simp only[Act.put,jq5,jq6,jq7,i64_w,i32_w]
     rfl
    refine pure_ (i:=4) (N:=some 26) (v:=?_) (a':=?_) #[Z,Z,Z,Z,Z] rfl rfl (by kernel_rfl) (fun _ _ _ h=>h) (Or.inl ⟨by rfl,?_⟩) ?_ ?_
    rotate_left
    ·intro w'
     go_simp
     with_reducible rfl
    rotate_left
    ·simp only[Act.put,jq5,jq6,jq7,i64_w,i32_w]
     rfl
    refine done_ (by kernel_rfl) ?_
    try go_wp2
    go_ret
    exact⟨by first|rfl|(simp[*,zv,zk] <;> rfl),by repeat(first|(with_reducible first|exact HB.out|apply O|apply U|apply L|refine qq ?_ GE101.out|refine qq ?_ GE128.out)|exact HB.out)⟩
   ·replace c14:=jq9.mpr c14
    subst c14
    have H1:(none)=some r:=by rw[if_neg (show ¬ (false=true) by decide)] at H;exact H
    clear H
    have H:=H1
    clear H1
    exact absurd H (by simp)
open Go.RowKit Go.Proofs.Ytakocdkcfjkmdaa.Read Go.Proofs.YtakocdkcfjkmdaaW.PrintWords
def ok96 (x:S96):Prop:=okS x.f0∧(okL okB) x.f1∧(okL okS) x.f2∧(okL okS) x.f3∧(okL okI) x.f4
theorem tells96:Tells Try.prog 96 k96 ok96 :=
 tells_iso (fun x:S96=>(x.f0,x.f1,x.f2,x.f3,x.f4)) (fun a=>⟨a.1,a.2.1,a.2.2.1,a.2.2.2.1,a.2.2.2.2⟩) (fun _=>rfl) (tells_struct Try.underlying96 (by kernel_rfl) (fs_cons rfl (tellsS Try.underlying9 (by kernel_rfl)) (fs_cons rfl (tellsL Try.underlying22 (by kernel_rfl) (tellsB Try.underlying5 (by kernel_rfl))) (fs_cons rfl (tellsL Try.underlying74 (by kernel_rfl) (tellsS Try.underlying9 (by kernel_rfl))) (fs_cons rfl (tellsL Try.underlying74 (by kernel_rfl) (tellsS Try.underlying9 (by kernel_rfl))) (fs_one rfl (tellsL Try.underlying75 (by kernel_rfl) (tellsI Try.underlying3 (by kernel_rfl)))))))))
def qqk.Pure:Prop:=∀ (l0_0:(List S96)) (l0_1:(List Int)) (a0_2:Int) (a0_3:Int) (a0_4:ByteArray) (a0_5:ByteArray) (a0_6:Bool) (a0_7:Bool),(okL ok96) l0_0→(okL okB) l0_1→okI a0_2→okI a0_3→okS a0_4→okS a0_5→∃ k,qqk.f k l0_0 l0_1 a0_2 a0_3 a0_4 a0_5 a0_6 a0_7=some true
theorem w64 {n:Int} (h0 : -9223372036854775808≤n) (h1:n≤9223372036854775807):wrap64 n=n:=by unfold wrap64;omega
theorem rd_nat {l:List Int} {i:Nat} (h:i < l.length):rd l (i:Int)=l[i]:=by
 simp[rd,List.getD_eq_getElem?_getD,List.getElem?_eq_getElem h]
theorem szByteS_eq (l:List Int) (n:Int):qzw.f l n=some (if wrap64 (n - l.length) < 0 then -1 else wrap64 (n - l.length)):=by
 unfold qzw.f;split <;> rfl
theorem toByteS_l0 (x0:List Int) (hl:x0.length≤281474976710656) (d:Nat):∀ (k i:Nat) (x3:List Int),x0.length - i=d→i≤x0.length→x3.length=x0.length→d < k→qjw.l0 k x0 x3 i=some (x3.take i ++ x0.drop i):=by
 induction d with
 | zero =>
  intro k i x3 hd hi h3 hk
  obtain⟨k,rfl⟩ : ∃ m,k=m + 1:=⟨k - 1,by omega⟩
  simp only[qjw.l0]
  rw[if_neg (by omega),List.take_of_length_le (by omega),List.drop_of_length_le (by omega),List.append_nil]
 | succ d ih =>
  intro k i x3 hd hi h3 hk
  obtain⟨k,rfl⟩ : ∃ m,k=m + 1:=⟨k - 1,by omega⟩
  simp only[qjw.l0]
  rw[if_pos (by omega),if_pos (by omega),if_pos (by omega),w64 (by omega) (by omega)]
  have e:=ih k (i + 1) (x3.set i (rd x0 i)) (by omega) (by omega) (by simpa using h3) (by omega)
  rw[Int.toNat_natCast]
  rw[show((i:Int) + 1)=((i + 1:Nat):Int) from rfl,e]
  congr 1
  have hlt:i < x0.length:=by omega
  rw[List.take_succ_eq_append_getElem (by simp;omega),List.getElem_set_self,List.take_set_of_le (by omega),rd_nat hlt,List.append_assoc,List.singleton_append,← List.drop_eq_getElem_cons hlt]
theorem toByteS_ev (l:List Int) (hl:l.length≤281474976710656):Ev (fun k=>qjw.f k l) l :=
 ⟨l.length + 1,fun k hk=>by
  show qjw.f k l=some l
  unfold qjw.f
  rw[if_pos (by omega),if_pos (by omega)]
  have:=toByteS_l0 l hl l.length k 0 (List.replicate ((l.length:Int)).toNat 0) (by omega) (by omega) (by simp) (by omega)
  simpa using this⟩
theorem eqByteS_l0 (x0 x1:List Int) (hl:x0.length=x1.length) (hm:x0.length≤281474976710656) (d:Nat):∀ (k i:Nat),x0.length - i=d→i≤x0.length→d < k→qqw.l0 k x0 x1 i=some (decide (x0.drop i=x1.drop i)):=by
 induction d with
 | zero =>
  intro k i hd hi hk
  obtain⟨k,rfl⟩ : ∃ m,k=m + 1:=⟨k - 1,by omega⟩
  simp only[qqw.l0]
  rw[if_neg (by omega),List.drop_of_length_le (by omega),List.drop_of_length_le (by omega)];simp
 | succ d ih =>
  intro k i hd hi hk
  obtain⟨k,rfl⟩ : ∃ m,k=m + 1:=⟨k - 1,by omega⟩
  simp only[qqw.l0]
  have h0:i < x0.length:=by omega
  have h1:i < x1.length:=by omega
  rw[if_pos (by omega),if_pos (by omega),if_pos (by omega),w64 (by omega) (by omega),rd_nat h0,rd_nat h1,List.drop_eq_getElem_cons h0,List.drop_eq_getElem_cons h1]
  have e:=ih k (i + 1) (by omega) (by omega) (by omega)
  rw[show((i:Int) + 1)=((i + 1:Nat):Int) from rfl,e]
  by_cases hx:x0[i]=x1[i]
  ·rw[if_pos hx];congr 1;rw[decide_eq_decide,hx,List.cons.injEq];exact⟨fun h=>⟨rfl,h⟩,fun h=>h.2⟩
  ·rw[if_neg hx];congr 1;symm;rw[decide_eq_false_iff_not,List.cons.injEq];exact fun h=>hx h.1
theorem eqByteS_ev (a b:List Int) (hl:a.length≤281474976710656):Ev (fun k=>qqw.f k a b) (decide (a=b)) :=
 ⟨a.length + 1,fun k hk=>by
  show qqw.f k a b=_
  unfold qqw.f
  by_cases h:a.length=b.length
  ·rw[if_pos (by omega)]
   have:=eqByteS_l0 a b h hl a.length k 0 (by omega) (by omega) (by omega)
   simpa using this
  ·rw[if_neg (by omega)]
   have:a≠b:=fun e=>h (by rw[e])
   simp[this]⟩
theorem eqByteS_refl (a:List Int) (hl:a.length≤281474976710656):Ev (fun k=>qqw.f k a a) true:=by
 have:=eqByteS_ev a a hl
 simpa using this
theorem Ev.upW {α:Type} {g:Nat→Option α} {r : α} (h:Ev (fun k=>g (k + 1)) r):Ev g r:=by
 obtain⟨n,h⟩:=h
 refine⟨n + 1,fun k hk=>?_⟩
 obtain⟨k,rfl⟩ : ∃ m,k=m + 1:=⟨k - 1,by omega⟩
 exact h k (by omega)
theorem wrap_succ {i n:Nat} (h:i < n) (hn:n≤281474976710656):wrap64 ((i:Int) + 1)=((i + 1:Nat):Int):=by rw[w64 (by omega) (by omega)];rfl
theorem rows_sz {α:Type} (l:List α) (ok small : α→Prop) (F:Nat→Int→Int→Option Int) (g:Nat→α→Int→Option Int) (hlen:l.length≤1048576)
  (hstop:∀ k x,F (k + 1) x (l.length:Int)=some x)
  (hstep:∀ (k:Nat) (i:Nat) (h:i < l.length) (x:Int),F (k + 1) x (i:Int)=(g k l[i] x).bind fun t=>if t < 0 then some (-1) else F k t ((i + 1:Nat):Int))
  (hok:∀ e ∈ l,ok e) (hg:∀ e,ok e→∀ left:Int,0≤left→left≤1048576→∃ r:Int,Ev (fun k=>g k e left) r∧r≤1048576∧(¬ r < 0→small e)) (d:Nat) :
  ∀ (i:Nat) (left:Int),i + d=l.length→0≤left→left≤1048576→∃ r:Int,Ev (fun k=>F k left (i:Int)) r∧r≤1048576∧(¬ r < 0→∀ j (h:j < l.length),i≤j→small l[j]):=by
 induction d with
 | zero =>
  intro i left hi h0 h1
  obtain rfl:i=l.length:=by omega
  refine⟨left,Ev.upW ?_,h1,fun _ j hj hij=>by omega⟩
  simp only[hstop]
  exact Ev.now _
 | succ d ih =>
  intro i left hi h0 h1
  have hlt:i < l.length:=by omega
  obtain⟨r1,e1,hr1,hs1⟩:=hg l[i] (hok _ (List.getElem_mem hlt)) left h0 h1
  by_cases hneg:r1 < 0
  ·refine⟨-1,Ev.upW ?_,by omega,fun h=>by omega⟩
   simp only[hstep _ i hlt]
   refine Ev.bind e1 ?_
   simp only[if_pos hneg]
   exact Ev.now _
  ·obtain⟨r,er,hr1',hr⟩:=ih (i + 1) r1 (by omega) (by omega) hr1
   refine⟨r,Ev.upW ?_,hr1',fun hn j hj hij=>?_⟩
   ·simp only[hstep _ i hlt]
    refine Ev.bind e1 ?_
    simp only[if_neg hneg]
    exact er
   ·by_cases hji:j=i
    ·subst hji;exact hs1 hneg
    ·exact hr hn j hj (by omega)
theorem rows_szf {α:Type} (l:List α) (ok small : α→Prop) (G:Nat→Int→Option Int) (F:Nat→Int→Int→Option Int) (g:Nat→α→Int→Option Int) (left:Int) (h0 : 0≤left) (h1:left≤1048576) (hmax:l.length≤9223372036854775807)
  (hG:∀ k,G k left=if wrap64 (left - (l.length:Int)) < 0 then some (-1) else F k (wrap64 (left - (l.length:Int))) 0)
  (hstop:∀ k x,F (k + 1) x (l.length:Int)=some x)
  (hstep:l.length≤1048576→∀ (k:Nat) (i:Nat) (h:i < l.length) (x:Int),F (k + 1) x (i:Int)=(g k l[i] x).bind fun t=>if t < 0 then some (-1) else F k t ((i + 1:Nat):Int))
  (hok:∀ e ∈ l,ok e) (hg:∀ e,ok e→∀ left:Int,0≤left→left≤1048576→∃ r:Int,Ev (fun k=>g k e left) r∧r≤1048576∧(¬ r < 0→small e)) :
  ∃ r:Int,Ev (fun k=>G k left) r∧r≤1048576∧(¬ r < 0→l.length≤1048576∧∀ e ∈ l,small e):=by
 have ew:wrap64 (left - (l.length:Int))=left - (l.length:Int):=w64 (by omega) (by omega)
 by_cases h:(l.length:Int)≤left
 ·obtain⟨r,er,hr1,hr⟩:=rows_sz l ok small F g (by omega) hstop (hstep (by omega)) hok hg l.length 0 (left - (l.length:Int)) (by omega) (by omega) (by omega)
  refine⟨r,?_,hr1,fun hn=>⟨by omega,fun e he=>?_⟩⟩
  ·simp only[hG,ew,if_neg (show ¬ left - (l.length:Int) < 0 by omega)]
   exact er
  ·obtain⟨j,hj,rfl⟩:=List.getElem_of_mem he
   exact hr hn j hj (by omega)
 ·refine⟨-1,?_,by omega,fun hn=>by omega⟩
  simp only[hG,ew,if_pos (show left - (l.length:Int) < 0 by omega)]
  exact Ev.now _
theorem set_midW {α:Type} (A:List α) (z v : α) (m i:Nat) (h:A.length=i):(A ++ List.replicate (m + 1) z).set i v=(A ++ [v]) ++ List.replicate m z:=by
 subst h
 rw[List.set_append_right _ _ (Nat.le_refl _),Nat.sub_self,List.replicate_succ,jq6,List.append_assoc]
 rfl
theorem rows_to {α β γ:Type} (l:List α) (z : β) (F:Nat→List β→Int→Option (List β)) (g:Nat→α→Option γ) (mk : γ→β) (cp : α→β) (hlen:l.length≤1048576)
  (hstop:∀ k x,F (k + 1) x (l.length:Int)=some x)
  (hstep:∀ (k:Nat) (i:Nat) (h:i < l.length) (x:List β),x.length=l.length→F (k + 1) x (i:Int)=(g k l[i]).bind fun t=>F k (x.set i (mk t)) ((i + 1:Nat):Int))
  (hg:∀ e ∈ l,∃ t,Ev (fun k=>g k e) t∧mk t=cp e) (d:Nat) :
  ∀ i,i + d=l.length→Ev (fun k=>F k ((l.take i).map cp ++ List.replicate d z) (i:Int)) (l.map cp):=by
 induction d with
 | zero =>
  intro i hi
  obtain rfl:i=l.length:=by omega
  refine Ev.upW ?_
  simp only[hstop]
  rw[List.take_length,List.replicate_zero,List.append_nil]
  exact Ev.now _
 | succ d ih =>
  intro i hi
  have hlt:i < l.length:=by omega
  obtain⟨t,et,ht⟩:=hg _ (List.getElem_mem hlt)
  have hlA:((l.take i).map cp).length=i:=by rw[List.length_map,jq4];omega
  have hl3:((l.take i).map cp ++ List.replicate (d + 1) z).length=l.length:=by rw[List.length_append,hlA,List.length_replicate];omega
  refine Ev.upW ?_
  simp only[hstep _ i hlt _ hl3]
  refine Ev.bind et ?_
  rw[ht,set_midW _ _ _ _ _ hlA]
  have hn:=ih (i + 1) (by omega)
  rw[List.take_succ_eq_append_getElem hlt,List.map_append,List.map_singleton] at hn
  exact hn
theorem rows_eq {α:Type} (l:List α) (F:Nat→Int→Option Bool) (g:Nat→α→Option Bool) (hlen:l.length≤1048576)
  (hstop:∀ k,F (k + 1) (l.length:Int)=some true)
  (hstep:∀ (k:Nat) (i:Nat) (h:i < l.length),F (k + 1) (i:Int)=(g k l[i]).bind fun t=>if t=true then F k ((i + 1:Nat):Int) else some false)
  (hg:∀ e ∈ l,Ev (fun k=>g k e) true) (d:Nat):∀ i,i + d=l.length→Ev (fun k=>F k (i:Int)) true:=by
 induction d with
 | zero =>
  intro i hi
  obtain rfl:i=l.length:=by omega
  refine Ev.upW ?_
  simp only[hstop]
  exact Ev.now _
 | succ d ih =>
  intro i hi
  have hlt:i < l.length:=by omega
  refine Ev.upW ?_
  simp only[hstep _ i hlt]
  refine Ev.bind (hg _ (List.getElem_mem hlt)) ?_
  simp only[if_true]
  exact ih (i + 1) (by omega)
theorem rdStr_nat {l:List ByteArray} {i:Nat} (h:i < l.length):rdOf ByteArray.empty l (i:Int)=l[i]:=by simp[rdOf,List.getD_eq_getElem?_getD,List.getElem?_eq_getElem h]
theorem szStringS_ev (l:List ByteArray) (hok:∀ e ∈ l,okS e) (hmax:l.length≤9223372036854775807) (left:Int) (h0 : 0≤left) (h1:left≤1048576):∃ r:Int,Ev (fun k=>qjk.f k l left) r∧r≤1048576∧(¬ r < 0→l.length≤1048576∧∀ e ∈ l,e.size≤1048576) :=
 rows_szf l okS (fun e=>e.size≤1048576) (fun k x=>qjk.f k l x) (fun k x i=>qjk.l0 k l x i) (fun _ e x=>if wrap64 (x - (e.size:Int)) < 0 then some (-1) else some (wrap64 (x - (e.size:Int)))) left h0 h1 hmax (fun _=>rfl)
  (fun k x=>by simp only[qjk.l0,if_neg (Int.lt_irrefl _)])
  (fun hl k i h x=>by
   simp only[qjk.l0,if_pos (show(i:Int) < (l.length:Int) by omega),if_pos (Int.natCast_nonneg i),rdStr_nat h,wrap_succ h (by omega)]
   by_cases hc:wrap64 (x - (l[i].size:Int)) < 0
   ·simp only[if_pos hc,Option.bind_some,if_pos (show(-1:Int) < 0 by decide)]
   ·simp only[if_neg hc,Option.bind_some])
  hok (fun e he x hx0 hx1=>by
   unfold okS at he
   have ew:wrap64 (x - (e.size:Int))=x - (e.size:Int):=w64 (by omega) (by omega)
   by_cases hc:x - (e.size:Int) < 0
   ·exact⟨-1,by simp only[ew,if_pos hc];exact Ev.now _,by omega,fun h=>by omega⟩
   ·exact⟨x - (e.size:Int),by simp only[ew,if_neg hc];exact Ev.now _,by omega,fun h=>by omega⟩)
theorem toStringS_ev (l:List ByteArray) (hlen:l.length≤1048576):Ev (fun k=>qkk.f k l) l:=by
 simp only[qkk.f,if_pos (Int.natCast_nonneg l.length),Int.toNat_natCast,if_pos (show l.length≤17592186044416 by omega)]
 have:=rows_to l (⟨#[]⟩ : ByteArray) (fun k x i=>qkk.l0 k l x i) (fun _ e=>some e) id id hlen
  (fun k x=>by simp only[qkk.l0,if_neg (Int.lt_irrefl _)])
  (fun k i h x hx=>by simp only[qkk.l0,if_pos (show(i:Int) < (l.length:Int) by omega),if_pos (Int.natCast_nonneg i),rdStr_nat h,wrap_succ h (by omega),if_pos (show(i:Int) < (x.length:Int) by omega),Int.toNat_natCast,Option.bind_some,id])
  (fun e _=>⟨e,Ev.now _,rfl⟩) l.length 0 (by omega)
 rw[List.take_zero,jq2,List.nil_append,List.map_id] at this
 exact this
theorem eqStringS_refl (l:List ByteArray) (hlen:l.length≤1048576):Ev (fun k=>qzk.f k l l) true:=by
 simp only[qzk.f,if_true]
 exact rows_eq l (fun k i=>qzk.l0 k l l i) (fun _ e=>some true) hlen
  (fun k=>by simp only[qzk.l0,if_neg (Int.lt_irrefl _)])
  (fun k i h=>by simp only[qzk.l0,if_pos (show(i:Int) < (l.length:Int) by omega),if_pos (Int.natCast_nonneg i),rdStr_nat h,wrap_succ h (by omega),if_true,Option.bind_some])
  (fun e _=>Ev.now _) l.length 0 (by omega)
theorem szIntS_eq (l:List Int) (left:Int) (h0 : 0≤left) (h1:left≤1048576) (hmax:l.length≤9223372036854775807):∃ r:Int,qjz.f l left=some r∧r≤1048576∧(¬ r < 0→l.length≤1048576):=by
 have ew:wrap64 (left - (l.length:Int))=left - (l.length:Int):=w64 (by omega) (by omega)
 unfold qjz.f
 rw[ew]
 by_cases hc:left - (l.length:Int) < 0
 ·exact⟨-1,if_pos hc,by omega,fun h=>by omega⟩
 ·exact⟨_,if_neg hc,by omega,fun h=>by omega⟩
theorem toIntS_ev (l:List Int) (hlen:l.length≤1048576):Ev (fun k=>qkz.f k l) l:=by
 simp only[qkz.f,if_pos (Int.natCast_nonneg l.length),Int.toNat_natCast,if_pos (show l.length≤35184372088832 by omega)]
 have:=rows_to l (0:Int) (fun k x i=>qkz.l0 k l x i) (fun _ e=>some e) id id hlen
  (fun k x=>by simp only[qkz.l0,if_neg (Int.lt_irrefl _)])
  (fun k i h x hx=>by simp only[qkz.l0,if_pos (show(i:Int) < (l.length:Int) by omega),if_pos (Int.natCast_nonneg i),rd_nat h,wrap_succ h (by omega),if_pos (show(i:Int) < (x.length:Int) by omega),Int.toNat_natCast,Option.bind_some,id])
  (fun e _=>⟨e,Ev.now _,rfl⟩) l.length 0 (by omega)
 rw[List.take_zero,jq2,List.nil_append,List.map_id] at this
 exact this
theorem eqIntS_refl (l:List Int) (hlen:l.length≤1048576):Ev (fun k=>qzz.f k l l) true:=by
 simp only[qzz.f,if_true]
 exact rows_eq l (fun k i=>qzz.l0 k l l i) (fun _ e=>some true) hlen
  (fun k=>by simp only[qzz.l0,if_neg (Int.lt_irrefl _)])
  (fun k i h=>by simp only[qzz.l0,if_pos (show(i:Int) < (l.length:Int) by omega),if_pos (Int.natCast_nonneg i),rd_nat h,wrap_succ h (by omega),if_true,Option.bind_some])
  (fun e _=>Ev.now _) l.length 0 (by omega)
def cmpB:List UInt8→List UInt8→Int
 | [],[]=>0
 | [],_ :: _=>-1
 | _ :: _,[]=>1
 | a :: x,b :: y=>if a.toNat=b.toNat then cmpB x y else if a.toNat < b.toNat then -1 else 1
theorem cmpB_less:∀ x y:List UInt8,Op.bytesLess x y=decide (cmpB x y < 0)
 | [],[]=>by unfold Op.bytesLess cmpB;rfl
 | [],_ :: _=>by unfold Op.bytesLess cmpB;rfl
 | _ :: _,[]=>by unfold Op.bytesLess cmpB;rfl
 | a :: x,b :: y=>by
  unfold Op.bytesLess cmpB
  by_cases h:a.toNat=b.toNat
  ·obtain rfl:a=b:=UInt8.toNat_inj.1 h
   rw[if_pos rfl,cmpB_less x y]
   have h2:decide (a < a)=false:=decide_eq_false (by rw[UInt8.lt_iff_toNat_lt];omega)
   rw[h2]
   simp
  ·have hne:(a == b)=false:=by rw[beq_eq_false_iff_ne];intro e;exact h (by rw[e])
   rw[if_neg h,hne,Bool.false_and,Bool.or_false]
   by_cases h3:a.toNat < b.toNat
   ·rw[if_pos h3,decide_eq_true (UInt8.lt_iff_toNat_lt.2 h3)];rfl
   ·rw[if_neg h3,decide_eq_false (fun e=>h3 (UInt8.lt_iff_toNat_lt.1 e))];rfl
theorem bt_list (s:ByteArray) (i:Nat) (h:i < s.size):∃ hl:i < s.toList.length,bt s (i:Int)=(s.toList[i].toNat:Int):=by
 have hl:i < s.toList.length:=by rw[ByteArray.toList_eq,data_length];exact h
 refine⟨hl,?_⟩
 unfold bt
 simp only[Int.toNat_natCast,dif_pos h]
 simp only[ByteArray.toList_eq]
 rfl
theorem toList_len (s:ByteArray):s.toList.length=s.size:=by rw[ByteArray.toList_eq,data_length]
theorem cmpT_l0 (a b:ByteArray) (ha:a.size≤4611686018427387904) (hb:b.size≤4611686018427387904) (d:Nat):∀ (k i:Nat),i + d=a.size→i≤b.size→2 * d + 2≤k→qvw.l0 k a b (i:Int)=some (cmpB (a.toList.drop i) (b.toList.drop i)):=by
 induction d with
 | zero =>
  intro k i hi hib hk
  obtain⟨k,rfl⟩ : ∃ m,k=m + 2:=⟨k - 2,by omega⟩
  have e1:a.toList.drop i=[]:=List.drop_of_length_le (by rw[toList_len];omega)
  simp only[qvw.l0]
  rw[if_neg (by omega)]
  simp only[qvw.j1,qvv.f,if_neg (show ¬ (false=true) by decide)]
  rw[e1]
  by_cases hlt:i < b.size
  ·rw[if_pos (by omega),List.drop_eq_getElem_cons (by rw[toList_len];exact hlt)]
   rfl
  ·rw[if_neg (by omega),if_neg (by omega),show b.toList.drop i=[] from List.drop_of_length_le (by rw[toList_len];omega)]
   rfl
 | succ d ih =>
  intro k i hi hib hk
  obtain⟨k,rfl⟩ : ∃ m,k=m + 2:=⟨k - 2,by omega⟩
  obtain⟨hl,eb⟩:=bt_list a i (by omega)
  simp only[qvw.l0]
  rw[if_pos (by omega),List.drop_eq_getElem_cons hl]
  by_cases hlt:i < b.size
  ·obtain⟨hl2,eb2⟩:=bt_list b i hlt
   rw[List.drop_eq_getElem_cons hl2]
   simp only[qvw.j1,decide_eq_true (show(i:Int) < (b.size:Int) by omega),if_true]
   rw[if_pos (by omega),if_pos (by omega),if_pos (by omega),eb,eb2]
   unfold cmpB
   have h1:a.toList[i].toNat < 256:=UInt8.toNat_lt _
   have h2:b.toList[i].toNat < 256:=UInt8.toNat_lt _
   by_cases he:a.toList[i].toNat=b.toList[i].toNat
   ·rw[if_pos (by omega),if_pos he,show wrap64 ((i:Int) + 1)=((i + 1:Nat):Int) from by rw[w64 (by omega) (by omega)];rfl]
    exact ih k (i + 1) (by omega) (by omega) (by omega)
   ·rw[if_neg (by omega),if_neg he,w64 (by omega) (by omega),w64 (by omega) (by omega)]
    unfold qvv.f
    by_cases h3:a.toList[i].toNat < b.toList[i].toNat
    ·rw[if_pos (by omega),if_pos h3];rfl
    ·rw[if_neg (by omega),if_neg h3,if_pos (by omega)];rfl
  ·have e2:b.toList.drop i=[]:=List.drop_of_length_le (by rw[toList_len];omega)
   rw[e2]
   simp only[qvw.j1,decide_eq_false (show ¬ (i:Int) < (b.size:Int) by omega),if_neg (show ¬ (false=true) by decide)]
   unfold qvv.f cmpB
   rw[if_neg (by omega),if_pos (by omega)]
   rfl
def cmpT (a b:ByteArray):Int:=cmpB a.toList b.toList
theorem cmpT_ev (a b:ByteArray) (ha:a.size≤4611686018427387904) (hb:b.size≤4611686018427387904):Ev (fun k=>qvw.f k a b) (cmpT a b):=by
 refine⟨2 * a.size + 2,fun k hk=>?_⟩
 have:=cmpT_l0 a b ha hb a.size k 0 (by omega) (by omega) hk
 simpa [qvw.f,cmpT] using this
theorem cmpT_less (a b:ByteArray):Op.bytesLess a.toList b.toList=decide (cmpT a b < 0):=cmpB_less _ _
def nletC (c:Int):Bool:=decide (97≤c∧c≤122∨65≤c∧c≤90)
def ndigC (c:Int):Bool:=decide (48≤c∧c≤57)
theorem nsletter_eq (c:Int):qwq.f c=some (nletC c):=by
 unfold qwq.f nletC
 split
 ·split
  ·congr 1;symm;rw[decide_eq_true_eq];omega
  ·split
   ·congr 1;rw[decide_eq_decide];omega
   ·congr 1;symm;rw[decide_eq_false_iff_not];omega
 ·split
  ·congr 1;rw[decide_eq_decide];omega
  ·congr 1;symm;rw[decide_eq_false_iff_not];omega
theorem nsdigit_eq (c:Int):qvx.f c=some (ndigC c):=by
 unfold qvx.f ndigC
 split
 ·congr 1;rw[decide_eq_decide];omega
 ·congr 1;symm;rw[decide_eq_false_iff_not];omega
theorem niletter_eq (c:Int):xx.f c=some (nletC c):=by
 unfold xx.f nletC
 split
 ·split
  ·congr 1;symm;rw[decide_eq_true_eq];omega
  ·split
   ·congr 1;rw[decide_eq_decide];omega
   ·congr 1;symm;rw[decide_eq_false_iff_not];omega
 ·split
  ·congr 1;rw[decide_eq_decide];omega
  ·congr 1;symm;rw[decide_eq_false_iff_not];omega
theorem nidigit_eq (c:Int):xk.f c=some (ndigC c):=by
 unfold xk.f ndigC
 split
 ·congr 1;rw[decide_eq_decide];omega
 ·congr 1;symm;rw[decide_eq_false_iff_not];omega
def nameC (c:Int):Bool:=if nletC c=true then true else if ndigC c=true then true else if c=95 then true else false
def nameN (s:ByteArray):Nat→Bool
 | 0=>true
 | d + 1=>if nameC (bt s ((s.size - (d + 1):Nat):Int))=true then nameN s d else false
theorem sName_l0 (s:ByteArray) (hs:s.size≤9223372036854775807) (d:Nat):∀ (k i:Nat),s.size - i=d→i≤s.size→d < k→qvq.l0 k s i=some (nameN s d):=by
 induction d with
 | zero =>
  intro k i hd hi hk
  obtain⟨k,rfl⟩ : ∃ m,k=m + 1:=⟨k - 1,by omega⟩
  simp only[qvq.l0]
  rw[if_neg (by omega)]
  rfl
 | succ d ih =>
  intro k i hd hi hk
  obtain⟨k,rfl⟩ : ∃ m,k=m + 1:=⟨k - 1,by omega⟩
  have e0:s.size - (d + 1)=i:=by omega
  simp only[qvq.l0,nameN,e0,nsletter_eq,nsdigit_eq,Option.bind_some]
  rw[if_pos (by omega),if_pos (by omega),w64 (by omega) (by omega),show((i:Int) + 1)=((i + 1:Nat):Int) from rfl,ih k (i + 1) (by omega) (by omega) (by omega)]
  unfold nameC
  split
  ·simp only[if_true]
  ·split
   ·simp only[if_true]
   ·split <;> simp only[if_true,Bool.false_eq_true,if_false]
theorem iName_l0 (s:ByteArray) (hs:s.size≤9223372036854775807) (d:Nat):∀ (k i:Nat),s.size - i=d→i≤s.size→d < k→wj.l0 k s (s.size:Int) i=some (nameN s d):=by
 induction d with
 | zero =>
  intro k i hd hi hk
  obtain⟨k,rfl⟩ : ∃ m,k=m + 1:=⟨k - 1,by omega⟩
  simp only[wj.l0]
  rw[if_neg (by omega)]
  rfl
 | succ d ih =>
  intro k i hd hi hk
  obtain⟨k,rfl⟩ : ∃ m,k=m + 1:=⟨k - 1,by omega⟩
  have e0:s.size - (d + 1)=i:=by omega
  simp only[wj.l0,nameN,e0,qqj.f,niletter_eq,nidigit_eq,Option.bind_some]
  rw[if_pos (by omega),if_pos (by omega),if_pos (by omega),w64 (by omega) (by omega),show((i:Int) + 1)=((i + 1:Nat):Int) from rfl,ih k (i + 1) (by omega) (by omega) (by omega)]
  unfold nameC
  by_cases h1:nletC (bt s (i:Int))=true
  ·simp only[h1,if_true,Option.bind_some]
  ·simp only[h1,Bool.false_eq_true,if_false]
   by_cases h2:ndigC (bt s (i:Int))=true
   ·simp only[h2,if_true,Option.bind_some]
   ·simp only[h2,Bool.false_eq_true,if_false,Option.bind_some,beq_iff_eq]
    by_cases h3:bt s (i:Int)=95
    ·simp only[h3,if_true]
    ·simp only[h3,if_false,Bool.false_eq_true]
def goodName (s:ByteArray):Bool:=if 1≤s.size∧s.size≤30 then(if ndigC (bt s 0)=true then false else nameN s s.size) else false
theorem list_nil_size {s:ByteArray} : s.toList=([]:List UInt8) ↔ s.size=0:=by
 rw[ByteArray.toList_eq]
 constructor
 ·intro h
  have:=congrArg List.length h
  rwa [data_length] at this
 ·intro h
  exact List.eq_nil_of_length_eq_zero (by rw[data_length];exact h)
theorem specName_ev (s:ByteArray) (hs:s.size≤9223372036854775807):Ev (fun k=>qvq.f k s) (goodName s):=by
 refine⟨s.size + 3,fun k hk=>?_⟩
 obtain⟨k,rfl⟩ : ∃ m,k=m + 1:=⟨k - 1,by omega⟩
 show qvq.f (k + 1) s=_
 simp only[qvq.f,qvq.j0,if_true,goodName]
 by_cases h1:(s.size:Int) < 1
 ·rw[if_pos h1,if_neg (show ¬ (1≤s.size∧s.size≤30) by omega)]
 by_cases h2:(s.size:Int) > 30
 ·rw[if_neg h1,if_pos h2,if_neg (show ¬ (1≤s.size∧s.size≤30) by omega)]
 rw[if_neg h1,if_neg h2,if_pos (show 1≤s.size∧s.size≤30 by omega),if_pos (by omega),nsdigit_eq,Option.bind_some]
 by_cases h3:ndigC (bt s 0)=true
 ·rw[if_pos h3,if_pos h3]
 ·rw[if_neg h3,if_neg h3]
  exact sName_l0 s hs s.size k 0 (by omega) (by omega) (by omega)
theorem implName_ev (s:ByteArray) (hs:s.size≤9223372036854775807):Ev (fun k=>wj.f k s) (goodName s):=by
 refine⟨s.size + 3,fun k hk=>?_⟩
 obtain⟨k,rfl⟩ : ∃ m,k=m + 1:=⟨k - 1,by omega⟩
 show wj.f (k + 1) s=_
 simp only[wj.f,wj.j0,if_true,goodName]
 by_cases h1:s.size=0
 ·rw[if_pos (list_nil_size.2 h1),if_neg (show ¬ (1≤s.size∧s.size≤30) by omega)]
 by_cases h2:(s.size:Int) > 30
 ·rw[if_neg (fun e=>h1 (list_nil_size.1 e)),if_pos h2,if_neg (show ¬ (1≤s.size∧s.size≤30) by omega)]
 rw[if_neg (fun e=>h1 (list_nil_size.1 e)),if_neg h2,if_pos (show 1≤s.size∧s.size≤30 by omega),if_pos (by omega),nidigit_eq,Option.bind_some]
 by_cases h3:ndigC (bt s 0)=true
 ·rw[if_pos h3,if_pos h3]
 ·rw[if_neg h3,if_neg h3]
  exact iName_l0 s hs s.size k 0 (by omega) (by omega) (by omega)
def okTexts (l:List ByteArray):Prop:=l.length≤1048576∧∀ e ∈ l,e.size≤1048576
theorem anyO_ev {α:Type} (p:Nat→α→Option Bool) (q : α→Bool):∀ l:List α,(∀ x ∈ l,Ev (fun k=>p k x) (q x))→Ev (fun k=>anyO (p k) l) (l.any q)
 | [],_=>Ev.now _
 | x :: xs,h=>by
  simp only[anyO,List.any_cons]
  refine Ev.bind (h x List.mem_cons_self) ?_
  by_cases hq:q x=true
  ·simp only[hq,if_true,Bool.true_or];exact Ev.now _
  ·simp only[if_neg hq,jq9.2 hq,Bool.false_or]
   exact anyO_ev p q xs (fun y hy=>h y (List.mem_cons_of_mem _ hy))
def aheadS (l:List ByteArray) (i:Nat):Prop:=0 < i∧¬ cmpT (rdOf ByteArray.empty l ((i - 1:Nat):Int)) (rdOf ByteArray.empty l (i:Int)) < 0
instance (l:List ByteArray) (i:Nat):Decidable (aheadS l i):=by unfold aheadS;exact inferInstance
def risN (l:List ByteArray):Nat→Bool
 | 0=>true
 | d + 1=>if aheadS l (l.length - (d + 1)) then false else risN l d
theorem rd_sizes {l:List ByteArray} (ho:okTexts l) {i:Nat} (hi:i < l.length):(rdOf ByteArray.empty l (i:Int)).size≤1048576:=by rw[rdStr_nat hi];exact ho.2 _ (List.getElem_mem hi)
theorem yrising_l0 (l:List ByteArray) (ho:okTexts l) (d:Nat):∀ i:Nat,i + d=l.length→Ev (fun k=>qqz.l0 k l l (l.length:Int) (i:Int)) (risN l d):=by
 have hl:=ho.1
 induction d with
 | zero =>
  intro i hi
  refine Ev.upW ?_
  simp only[qqz.l0,if_neg (show ¬ (i:Int) < (l.length:Int) by omega)]
  exact Ev.now _
 | succ d ih =>
  intro i hi
  have hlt:i < l.length:=by omega
  have hrest:=ih (i + 1) (by omega)
  rw[← wrap_succ hlt (by omega)] at hrest
  refine Ev.upW ?_
  simp only[qqz.l0,risN,show l.length - (d + 1)=i by omega,if_pos (show(i:Int) < (l.length:Int) by omega),if_pos (Int.natCast_nonneg i)]
  by_cases h0 : 0 < i
  ·have e3:wrap64 ((i:Int) - 1)=((i - 1:Nat):Int):=by rw[w64 (by omega) (by omega)];omega
   simp only[if_pos (show(i:Int) > 0 by omega),e3,if_pos (Int.natCast_nonneg (i - 1)),if_pos (show((i - 1:Nat):Int) < (l.length:Int) by omega),cmpT_less]
   by_cases hc:cmpT (rdOf ByteArray.empty l ((i - 1:Nat):Int)) (rdOf ByteArray.empty l (i:Int)) < 0
   ·simp only[decide_eq_true hc,if_true,if_neg (show ¬ aheadS l i from fun h=>h.2 hc)]
    exact hrest
   ·simp only[decide_eq_false hc,if_neg (show ¬ (false=true) by decide),if_pos (show aheadS l i from⟨h0,hc⟩)]
    exact Ev.now _
  ·simp only[if_neg (show ¬ (i:Int) > 0 by omega),if_neg (show ¬ aheadS l i from fun h=>h0 h.1)]
   exact hrest
theorem l3Rising_l0 (l:List ByteArray) (ho:okTexts l) (d:Nat):∀ i:Nat,1≤i→i + d=l.length→Ev (fun k=>qwx.l0 k l (i:Int)) (risN l d):=by
 have hl:=ho.1
 induction d with
 | zero =>
  intro i h1 hi
  refine Ev.upW ?_
  simp only[qwx.l0,if_neg (show ¬ (i:Int) < (l.length:Int) by omega)]
  exact Ev.now _
 | succ d ih =>
  intro i h1 hi
  have hlt:i < l.length:=by omega
  have hrest:=ih (i + 1) (by omega) (by omega)
  rw[← wrap_succ hlt (by omega)] at hrest
  have e3:wrap64 ((i:Int) - 1)=((i - 1:Nat):Int):=by rw[w64 (by omega) (by omega)];omega
  have hs1:=rd_sizes ho hlt
  have hs2:=rd_sizes ho (show i - 1 < l.length by omega)
  refine Ev.upW ?_
  simp only[qwx.l0,risN,show l.length - (d + 1)=i by omega,if_pos (show(i:Int) < (l.length:Int) by omega),if_pos (Int.natCast_nonneg i),e3,if_pos (Int.natCast_nonneg (i - 1)),if_pos (show((i - 1:Nat):Int) < (l.length:Int) by omega)]
  refine Ev.bind (cmpT_ev _ _ (by omega) (by omega)) ?_
  by_cases hc:cmpT (rdOf ByteArray.empty l ((i - 1:Nat):Int)) (rdOf ByteArray.empty l (i:Int)) < 0
  ·simp only[if_neg (show ¬ cmpT (rdOf ByteArray.empty l ((i - 1:Nat):Int)) (rdOf ByteArray.empty l (i:Int)) ≥ 0 by omega),if_neg (show ¬ aheadS l i from fun h=>h.2 hc)]
   exact hrest
  ·simp only[if_pos (show cmpT (rdOf ByteArray.empty l ((i - 1:Nat):Int)) (rdOf ByteArray.empty l (i:Int)) ≥ 0 by omega),if_pos (show aheadS l i from⟨by omega,hc⟩)]
   exact Ev.now _
def risingL (l:List ByteArray):Bool:=risN l l.length
theorem yrising_ev (l:List ByteArray) (ho:okTexts l):Ev (fun k=>qqz.f k l) (risingL l):=yrising_l0 l ho l.length 0 (by omega)
theorem l3Rising_ev (l:List ByteArray) (ho:okTexts l):Ev (fun k=>qwx.f k l) (risingL l):=by
 unfold risingL
 simp only[qwx.f]
 by_cases h:l.length=0
 ·rw[h]
  refine Ev.upW ?_
  simp only[qwx.l0,if_neg (show ¬ (1:Int) < (l.length:Int) by omega)]
  exact Ev.now _
 ·have:=l3Rising_l0 l ho (l.length - 1) 1 (by omega) (by omega)
  obtain⟨m,hm⟩ : ∃ m,l.length=m + 1:=⟨l.length - 1,by omega⟩
  rw[hm] at this ⊢
  simp only[risN,hm,Nat.sub_self]
  rw[if_neg (show ¬ aheadS l 0 from fun h=>absurd h.1 (Nat.lt_irrefl 0))]
  exact this
def scopesL (l:List ByteArray):Bool:=if l.all goodName=true then(if l.length≤20 then risingL l else false) else false
theorem notall {α:Type} (p : α→Bool):∀ l:List α,(!l.any fun x=>!p x)=l.all p
 | []=>rfl
 | x :: xs=>by rw[List.any_cons,List.all_cons,← notall p xs];cases p x <;> simp
theorem yallNames_ev (l:List ByteArray) (ho:okTexts l):Ev (fun k=>xq.f k l) (l.all goodName):=by
 simp only[xq.f]
 have h:Ev (fun k=>has_impl_yallNames_1.f k l) (l.any fun x=>!goodName x):=anyO_ev (fun k x=>xz.f k x) _ l (fun x hx=>by
  have:=ho.2 x hx
  simp only[xz.f]
  exact Ev.bind (implName_ev x (by omega)) (Ev.now _))
 rw[← notall]
 exact Ev.bind h (Ev.now _)
theorem yfitScopes_ev (l:List ByteArray) (ho:okTexts l):Ev (fun k=>xv.f k l) (scopesL l):=by
 simp only[xv.f]
 unfold scopesL
 by_cases h:l.length≤20
 ·simp only[if_pos (show(l.length:Int)≤20 by omega),if_pos h]
  refine Ev.bind (yrising_ev l ho) ?_
  by_cases hr:risingL l=true
  ·simp only[if_pos hr]
   have e:(if l.all goodName=true then risingL l else false)=l.all goodName:=by rw[hr];cases l.all goodName <;> rfl
   rw[e]
   exact Ev.bind (yallNames_ev l ho) (Ev.now _)
  ·simp only[if_neg hr]
   have e:(if l.all goodName=true then risingL l else false)=false:=by rw[jq9.2 hr];simp
   rw[e]
   exact Ev.now _
 ·simp only[if_neg (show ¬ (l.length:Int)≤20 by omega),if_neg h]
  have e:(if l.all goodName=true then false else false)=false:=by simp
  rw[e]
  exact Ev.now _
theorem l18Scopes_l0 (l:List ByteArray) (ho:okTexts l) (d:Nat):∀ i:Nat,i + d=l.length→Ev (fun k=>qvk.l0 k l l (l.length:Int) (i:Int)) (if (l.drop i).all goodName=true then(if l.length≤20 then risingL l else false) else false):=by
 have hl:=ho.1
 induction d with
 | zero =>
  intro i hi
  refine Ev.upW ?_
  simp only[qvk.l0,if_neg (show ¬ (i:Int) < (l.length:Int) by omega)]
  rw[show l.drop i=[] from List.drop_of_length_le (by omega)]
  simp only[List.all_nil,if_true]
  by_cases h:l.length≤20
  ·simp only[if_pos (show(l.length:Int)≤20 by omega),if_pos h]
   exact Ev.bind (l3Rising_ev l ho) (Ev.now _)
  ·simp only[if_neg (show ¬ (l.length:Int)≤20 by omega),if_neg h]
   exact Ev.now _
 | succ d ih =>
  intro i hi
  have hlt:i < l.length:=by omega
  have hrest:=ih (i + 1) (by omega)
  rw[← wrap_succ hlt (by omega)] at hrest
  have hs1:=rd_sizes ho hlt
  refine Ev.upW ?_
  simp only[qvk.l0,if_pos (show(i:Int) < (l.length:Int) by omega),if_pos (Int.natCast_nonneg i)]
  refine Ev.bind (specName_ev _ (by omega)) ?_
  rw[List.drop_eq_getElem_cons hlt,List.all_cons,← rdStr_nat hlt]
  by_cases hg:goodName (rdOf ByteArray.empty l (i:Int))=true
  ·simp only[hg,if_true,Bool.true_and]
   exact hrest
  ·simp only[if_neg hg,jq9.2 hg,Bool.false_and,if_neg (show ¬ (false=true) by decide)]
   exact Ev.now _
theorem l18Scopes_ev (l:List ByteArray) (ho:okTexts l):Ev (fun k=>qvk.f k l) (scopesL l):=l18Scopes_l0 l ho l.length 0 (by omega)
def toC (e:S96):S77:=⟨e.f0,e.f1,e.f2,e.f3,e.f4⟩
def okCl (e:S96):Prop:=okS e.f0∧e.f1.length≤9223372036854775807∧okL okS e.f2∧okL okS e.f3∧e.f4.length≤9223372036854775807
def smCl (a:ByteArray) (b:List Int) (c d:List ByteArray) (e:List Int):Prop:=a.size≤1048576∧b.length≤1048576∧(c.length≤1048576∧∀ x ∈ c,x.size≤1048576)∧(d.length≤1048576∧∀ x ∈ d,x.size≤1048576)∧e.length≤1048576
theorem rdCL_nat {l:List S96} {i:Nat} (h:i < l.length):kx l (i:Int)=l[i]:=by simp[kx,List.getD_eq_getElem?_getD,List.getElem?_eq_getElem h]
theorem rdCI_nat {l:List S77} {i:Nat} (h:i < l.length):kw l (i:Int)=l[i]:=by simp[kw,List.getD_eq_getElem?_getD,List.getElem?_eq_getElem h]
theorem szByteS_any (l:List Int) (left:Int) (h0 : 0≤left) (h1:left≤1048576) (hmax:l.length≤9223372036854775807):∃ r:Int,qzw.f l left=some r∧r≤1048576∧(¬ r < 0→l.length≤1048576):=by
 rw[szByteS_eq,w64 (by omega) (by omega)]
 by_cases hc:left - (l.length:Int) < 0
 ·exact⟨-1,by rw[if_pos hc],by omega,fun h=>by omega⟩
 ·exact⟨_,by rw[if_neg hc],by omega,fun h=>by omega⟩
theorem szClient_ev (e:S96) (ho:okCl e) (left:Int) (h0 : 0≤left) (h1:left≤1048576):∃ r:Int,Ev (fun k=>qzx.f k e.f0 e.f1 e.f2 e.f3 e.f4 left) r∧r≤1048576∧(¬ r < 0→smCl e.f0 e.f1 e.f2 e.f3 e.f4):=by
 obtain⟨o0,o1,o2,o3,o4⟩:=ho
 unfold okS at o0
 have ew:wrap64 (left - (e.f0.size:Int))=left - (e.f0.size:Int):=w64 (by omega) (by omega)
 simp only[qzx.f,ew]
 by_cases c0:left - (e.f0.size:Int) < 0
 ·exact⟨-1,by simp only[if_pos c0];exact Ev.now _,by omega,fun h=>by omega⟩
 obtain⟨r1,e1,b1,s1⟩:=szByteS_any e.f1 (left - (e.f0.size:Int)) (by omega) (by omega) o1
 simp only[if_neg c0,e1,Option.bind_some]
 by_cases c1:r1 < 0
 ·exact⟨-1,by simp only[if_pos c1];exact Ev.now _,by omega,fun h=>by omega⟩
 obtain⟨r2,e2,b2,s2⟩:=szStringS_ev e.f2 o2.2 o2.1 r1 (by omega) b1
 by_cases c2:r2 < 0
 ·exact⟨-1,by simp only[if_neg c1];refine Ev.bind e2 ?_;simp only[if_pos c2];exact Ev.now _,by omega,fun h=>by omega⟩
 obtain⟨r3,e3,b3,s3⟩:=szStringS_ev e.f3 o3.2 o3.1 r2 (by omega) b2
 by_cases c3:r3 < 0
 ·exact⟨-1,by simp only[if_neg c1];refine Ev.bind e2 ?_;simp only[if_neg c2];refine Ev.bind e3 ?_;simp only[if_pos c3];exact Ev.now _,by omega,fun h=>by omega⟩
 obtain⟨r4,e4,b4,s4⟩:=szIntS_eq e.f4 r3 (by omega) b3 o4
 by_cases c4:r4 < 0
 ·exact⟨-1,by simp only[if_neg c1];refine Ev.bind e2 ?_;simp only[if_neg c2];refine Ev.bind e3 ?_;simp only[if_neg c3,e4,Option.bind_some,if_pos c4];exact Ev.now _,by omega,fun h=>by omega⟩
 ·exact⟨r4,by simp only[if_neg c1];refine Ev.bind e2 ?_;simp only[if_neg c2];refine Ev.bind e3 ?_;simp only[if_neg c3,e4,Option.bind_some,if_neg c4];exact Ev.now _,b4,fun _=>⟨by omega,s1 c1,s2 c2,s3 c3,s4 c4⟩⟩
theorem szClientS_ev (l:List S96) (hok:∀ e ∈ l,okCl e) (hmax:l.length≤9223372036854775807) (left:Int) (h0 : 0≤left) (h1:left≤1048576):∃ r:Int,Ev (fun k=>qjq.f k l left) r∧r≤1048576∧(¬ r < 0→l.length≤1048576∧∀ e ∈ l,smCl e.f0 e.f1 e.f2 e.f3 e.f4) :=
 rows_szf l okCl (fun e=>smCl e.f0 e.f1 e.f2 e.f3 e.f4) (fun k x=>qjq.f k l x) (fun k x i=>qjq.l0 k l x i) (fun k e x=>qzx.f k e.f0 e.f1 e.f2 e.f3 e.f4 x) left h0 h1 hmax (fun _=>rfl)
  (fun k x=>by simp only[qjq.l0,if_neg (Int.lt_irrefl _)])
  (fun hl k i h x=>by simp only[qjq.l0,if_pos (show(i:Int) < (l.length:Int) by omega),if_pos (Int.natCast_nonneg i),rdCL_nat h,wrap_succ h (by omega)])
  hok (fun e he x hx0 hx1=>szClient_ev e he x hx0 hx1)
theorem toClient_ev {a:ByteArray} {b:List Int} {c d:List ByteArray} {e:List Int} (h:smCl a b c d e):Ev (fun k=>qjx.f k a b c d e) (a,b,c,d,e):=by
 obtain⟨h0,h1,h2,h3,h4⟩:=h
 simp only[qjx.f]
 refine Ev.bind (toByteS_ev b (by omega)) ?_
 refine Ev.bind (toStringS_ev c h2.1) ?_
 refine Ev.bind (toStringS_ev d h3.1) ?_
 refine Ev.bind (toIntS_ev e h4) ?_
 exact Ev.now _
theorem toClientS_ev (l:List S96) (hlen:l.length≤1048576) (hs:∀ e ∈ l,smCl e.f0 e.f1 e.f2 e.f3 e.f4):Ev (fun k=>qkq.f k l) (l.map toC):=by
 simp only[qkq.f,if_pos (Int.natCast_nonneg l.length),Int.toNat_natCast,if_pos (show l.length≤2513169434916 by omega)]
 have:=rows_to l z77 (fun k x i=>qkq.l0 k l x i) (fun k e=>qjx.f k e.f0 e.f1 e.f2 e.f3 e.f4) (fun t=>(⟨t.1,t.2.1,t.2.2.1,t.2.2.2.1,t.2.2.2.2⟩ : S77)) toC hlen
  (fun k x=>by simp only[qkq.l0,if_neg (Int.lt_irrefl _)])
  (fun k i h x hx=>by simp only[qkq.l0,if_pos (show(i:Int) < (l.length:Int) by omega),if_pos (Int.natCast_nonneg i),rdCL_nat h,wrap_succ h (by omega),if_pos (show(i:Int) < (x.length:Int) by omega),Int.toNat_natCast])
  (fun e he=>⟨_,toClient_ev (hs e he),rfl⟩) l.length 0 (by omega)
 rw[List.take_zero,jq2,List.nil_append] at this
 exact this
theorem eqClient_refl {a:ByteArray} {b:List Int} {c d:List ByteArray} {e:List Int} (h:smCl a b c d e):Ev (fun k=>qqx.f k a b c d e a b c d e) true:=by
 obtain⟨h0,h1,h2,h3,h4⟩:=h
 simp only[qqx.f,if_true]
 refine Ev.bind (eqByteS_refl b (by omega)) ?_
 simp only[if_true]
 refine Ev.bind (eqStringS_refl c h2.1) ?_
 simp only[if_true]
 refine Ev.bind (eqStringS_refl d h3.1) ?_
 simp only[if_true]
 refine Ev.bind (eqIntS_refl e h4) ?_
 simp only[if_true]
 exact Ev.now _
theorem eqClientS_refl (l:List S77) (hlen:l.length≤1048576) (hs:∀ e ∈ l,smCl e.f0 e.f1 e.f2 e.f3 e.f4):Ev (fun k=>qzq.f k l l) true:=by
 simp only[qzq.f,if_true]
 exact rows_eq l (fun k i=>qzq.l0 k l l i) (fun k e=>qqx.f k e.f0 e.f1 e.f2 e.f3 e.f4 e.f0 e.f1 e.f2 e.f3 e.f4) hlen
  (fun k=>by simp only[qzq.l0,if_neg (Int.lt_irrefl _)])
  (fun k i h=>by simp only[qzq.l0,if_pos (show(i:Int) < (l.length:Int) by omega),if_pos (Int.natCast_nonneg i),rdCI_nat h,wrap_succ h (by omega)])
  (fun e he=>eqClient_refl (hs e he)) l.length 0 (by omega)
theorem szServer_ev (l:List S96) (key:List Int) (s g:Int) (hok:∀ e ∈ l,okCl e) (hmax:l.length≤9223372036854775807) (hk:key.length≤9223372036854775807) (left:Int) (h0 : 0≤left) (h1:left≤1048576):∃ r:Int,Ev (fun k=>qjj.f k l key s g left) r∧r≤1048576∧(¬ r < 0→(l.length≤1048576∧∀ e ∈ l,smCl e.f0 e.f1 e.f2 e.f3 e.f4)∧key.length≤1048576):=by
 obtain⟨r1,e1,b1,s1⟩:=szClientS_ev l hok hmax left h0 h1
 simp only[qjj.f]
 by_cases c1:r1 < 0
 ·exact⟨-1,by refine Ev.bind e1 ?_;simp only[if_pos c1];exact Ev.now _,by omega,fun h=>by omega⟩
 obtain⟨r2,e2,b2,s2⟩:=szByteS_any key r1 (by omega) b1 hk
 by_cases c2:r2 < 0
 ·exact⟨-1,by refine Ev.bind e1 ?_;simp only[if_neg c1,e2,Option.bind_some,if_pos c2];exact Ev.now _,by omega,fun h=>by omega⟩
 ·exact⟨r2,by refine Ev.bind e1 ?_;simp only[if_neg c1,e2,Option.bind_some,if_neg c2];exact Ev.now _,b2,fun _=>⟨s1 c1,s2 c2⟩⟩
theorem toServer_ev (l:List S96) (key:List Int) (s g:Int) (hlen:l.length≤1048576) (hs:∀ e ∈ l,smCl e.f0 e.f1 e.f2 e.f3 e.f4) (hk:key.length≤1048576):Ev (fun k=>qkj.f k l key s g) (l.map toC,key,s,g):=by
 simp only[qkj.f]
 refine Ev.bind (toClientS_ev l hlen hs) ?_
 refine Ev.bind (toByteS_ev key (by omega)) ?_
 exact Ev.now _
theorem eqServer_refl (l:List S77) (key:List Int) (s g:Int) (hlen:l.length≤1048576) (hs:∀ e ∈ l,smCl e.f0 e.f1 e.f2 e.f3 e.f4) (hk:key.length≤1048576):Ev (fun k=>qzj.f k l key s g l key s g) true:=by
 simp only[qzj.f]
 refine Ev.bind (eqClientS_refl l hlen hs) ?_
 simp only[if_true]
 refine Ev.bind (eqByteS_refl key (by omega)) ?_
 simp only[if_true]
 exact Ev.now _
def letC (c:Int):Bool:=decide (97≤c∧c≤122∨65≤c∧c≤90)
def digC (c:Int):Bool:=decide (48≤c∧c≤57)
theorem sletter_eq (c:Int):qwq.f c=some (letC c):=by
 unfold qwq.f letC
 split
 ·split
  ·congr 1;symm;rw[decide_eq_true_eq];omega
  ·split
   ·congr 1;rw[decide_eq_decide];omega
   ·congr 1;symm;rw[decide_eq_false_iff_not];omega
 ·split
  ·congr 1;rw[decide_eq_decide];omega
  ·congr 1;symm;rw[decide_eq_false_iff_not];omega
theorem sdigit_eq (c:Int):qvx.f c=some (digC c):=by
 unfold qvx.f digC
 split
 ·congr 1;rw[decide_eq_decide];omega
 ·congr 1;symm;rw[decide_eq_false_iff_not];omega
theorem iletter_eq (c:Int):xx.f c=some (letC c):=by
 unfold xx.f letC
 split
 ·split
  ·congr 1;symm;rw[decide_eq_true_eq];omega
  ·split
   ·congr 1;rw[decide_eq_decide];omega
   ·congr 1;symm;rw[decide_eq_false_iff_not];omega
 ·split
  ·congr 1;rw[decide_eq_decide];omega
  ·congr 1;symm;rw[decide_eq_false_iff_not];omega
theorem idigit_eq (c:Int):xk.f c=some (digC c):=by
 unfold xk.f digC
 split
 ·congr 1;rw[decide_eq_decide];omega
 ·congr 1;symm;rw[decide_eq_false_iff_not];omega
def idC (c:Int):Bool:=if letC c=true then true else if digC c=true then true else if c=95 then true else if c=45 then true else if c=46 then true else false
def idN (s:ByteArray):Nat→Bool
 | 0=>true
 | d + 1=>if idC (bt s ((s.size - (d + 1):Nat):Int))=true then idN s d else false
theorem l7Id_l0 (s:ByteArray) (hs:s.size≤9223372036854775807) (d:Nat):∀ (k i:Nat),s.size - i=d→i≤s.size→d < k→qxq.l0 k s i=some (if idN s d=true then(if (s.size:Int) ≥ 1 then decide ((s.size:Int)≤40) else false) else false):=by
 induction d with
 | zero =>
  intro k i hd hi hk
  obtain⟨k,rfl⟩ : ∃ m,k=m + 1:=⟨k - 1,by omega⟩
  simp only[qxq.l0,idN,if_true]
  rw[if_neg (by omega)]
  split <;> rfl
 | succ d ih =>
  intro k i hd hi hk
  obtain⟨k,rfl⟩ : ∃ m,k=m + 1:=⟨k - 1,by omega⟩
  have e0:s.size - (d + 1)=i:=by omega
  simp only[qxq.l0,idN,e0,sletter_eq,sdigit_eq,Option.bind_some]
  rw[if_pos (by omega),if_pos (by omega),w64 (by omega) (by omega),show((i:Int) + 1)=((i + 1:Nat):Int) from rfl,ih k (i + 1) (by omega) (by omega) (by omega)]
  unfold idC
  split
  ·simp only[if_true]
  ·split
   ·simp only[if_true]
   ·split
    ·simp only[if_true]
    ·split
     ·simp only[if_true]
     ·split <;> simp only[if_true,Bool.false_eq_true,if_false]
theorem ygoodId_l0 (s:ByteArray) (hs:s.size≤9223372036854775807) (d:Nat):∀ (k i:Nat),s.size - i=d→i≤s.size→d < k→xw.l0 k s (s.size:Int) i=some (idN s d):=by
 induction d with
 | zero =>
  intro k i hd hi hk
  obtain⟨k,rfl⟩ : ∃ m,k=m + 1:=⟨k - 1,by omega⟩
  simp only[xw.l0]
  rw[if_neg (by omega)]
  rfl
 | succ d ih =>
  intro k i hd hi hk
  obtain⟨k,rfl⟩ : ∃ m,k=m + 1:=⟨k - 1,by omega⟩
  have e0:s.size - (d + 1)=i:=by omega
  simp only[xw.l0,idN,e0,qqj.f,iletter_eq,idigit_eq,Option.bind_some]
  rw[if_pos (by omega),if_pos (by omega),if_pos (by omega),w64 (by omega) (by omega),show((i:Int) + 1)=((i + 1:Nat):Int) from rfl,ih k (i + 1) (by omega) (by omega) (by omega)]
  unfold idC
  by_cases h1:letC (bt s (i:Int))=true
  ·simp only[h1,if_true,Option.bind_some]
  ·simp only[h1,Bool.false_eq_true,if_false]
   by_cases h2:digC (bt s (i:Int))=true
   ·simp only[h2,if_true,Option.bind_some]
   ·simp only[h2,Bool.false_eq_true,if_false,Option.bind_some,beq_iff_eq]
    by_cases h3:bt s (i:Int)=95
    ·simp only[h3,if_true]
    ·simp only[h3,if_false]
     by_cases h4:bt s (i:Int)=45
     ·simp only[h4,if_true]
     ·simp only[h4,if_false]
      by_cases h5:bt s (i:Int)=46
      ·simp only[h5,if_true]
      ·simp only[h5,if_false,Bool.false_eq_true]
def goodId (s:ByteArray):Bool:=idN s s.size && (decide (1≤s.size) && decide (s.size≤40))
theorem specId_ev (s:ByteArray) (hs:s.size≤9223372036854775807):Ev (fun k=>qxq.f k s) (goodId s):=by
 refine⟨s.size + 1,fun k hk=>?_⟩
 show qxq.f k s=_
 unfold qxq.f
 have e:=l7Id_l0 s hs s.size k 0 (by omega) (by omega) (by omega)
 rw[show(0:Int)=((0:Nat):Int) from rfl,e]
 congr 1
 unfold goodId
 cases idN s s.size with
 | false=>rfl
 | true =>
  simp only[if_true,Bool.true_and]
  by_cases h : 1≤s.size
  ·rw[if_pos (by omega),decide_eq_true h,Bool.true_and,decide_eq_decide];omega
  ·rw[if_neg (by omega),decide_eq_false h,Bool.false_and]
theorem implId_ev (s:ByteArray) (hs:s.size≤9223372036854775807):Ev (fun k=>xw.f k s) (goodId s):=by
 refine⟨s.size + 2,fun k hk=>?_⟩
 show xw.f k s=_
 obtain⟨k,rfl⟩ : ∃ m,k=m + 1:=⟨k - 1,by omega⟩
 unfold xw.f goodId
 by_cases h1 : 1≤s.size
 ·by_cases h2:s.size≤40
  ·rw[if_neg (by omega),decide_eq_false (by omega),decide_eq_true h1,decide_eq_true h2]
   simp only[xw.j0,Bool.false_eq_true,if_false,Bool.and_true]
   exact ygoodId_l0 s hs s.size k 0 (by omega) (by omega) (by omega)
  ·rw[if_neg (by omega),decide_eq_true (by omega),decide_eq_false h2]
   simp only[xw.j0,if_true,Bool.and_false]
 ·rw[if_pos (by omega),decide_eq_false h1]
  simp only[xw.j0,if_true,Bool.false_and,Bool.and_false]
def prtN (s:ByteArray):Nat→Bool
 | 0=>true
 | d + 1=>if bt s ((s.size - (d + 1):Nat):Int) < 32 then false else if bt s ((s.size - (d + 1):Nat):Int) > 126 then false else prtN s d
def prt (s:ByteArray):Bool:=prtN s s.size
theorem l1Printed_l0 (s:ByteArray) (hs:s.size≤9223372036854775807) (d:Nat):∀ (k i:Nat),s.size - i=d→i≤s.size→d < k→qwz.l0 k s i=some (prtN s d):=by
 induction d with
 | zero =>
  intro k i hd hi hk
  obtain⟨k,rfl⟩ : ∃ m,k=m + 1:=⟨k - 1,by omega⟩
  simp only[qwz.l0]
  rw[if_neg (by omega)];rfl
 | succ d ih =>
  intro k i hd hi hk
  obtain⟨k,rfl⟩ : ∃ m,k=m + 1:=⟨k - 1,by omega⟩
  have e0:s.size - (d + 1)=i:=by omega
  simp only[qwz.l0,prtN,e0]
  rw[if_pos (by omega),if_pos (by omega),w64 (by omega) (by omega),show((i:Int) + 1)=((i + 1:Nat):Int) from rfl,ih k (i + 1) (by omega) (by omega) (by omega)]
  split
  ·rfl
  ·split <;> rfl
theorem l1Printed_eq (s:ByteArray) (hs:s.size≤9223372036854775807) (k:Nat) (hk:s.size < k):qwz.f k s=some (prt s) :=
 l1Printed_l0 s hs s.size k 0 (by omega) (by omega) hk
theorem yprinted_l0 (s:ByteArray) (hs:s.size≤9223372036854775807) (d:Nat):∀ (k i:Nat),s.size - i=d→i≤s.size→d < k→qqq.l0 k s (s.size:Int) i=some (prtN s d):=by
 induction d with
 | zero =>
  intro k i hd hi hk
  obtain⟨k,rfl⟩ : ∃ m,k=m + 1:=⟨k - 1,by omega⟩
  simp only[qqq.l0]
  rw[if_neg (by omega)];rfl
 | succ d ih =>
  intro k i hd hi hk
  obtain⟨k,rfl⟩ : ∃ m,k=m + 1:=⟨k - 1,by omega⟩
  have e0:s.size - (d + 1)=i:=by omega
  simp only[qqq.l0,prtN,e0]
  rw[if_pos (by omega),if_pos (by omega),if_pos (by omega),w64 (by omega) (by omega),show((i:Int) + 1)=((i + 1:Nat):Int) from rfl,ih k (i + 1) (by omega) (by omega) (by omega)]
  split
  ·rfl
  ·split <;> rfl
theorem yprinted_eq (s:ByteArray) (lo hi:Int) (hs:s.size≤9223372036854775807) (k:Nat) (hk:s.size + 1 < k):qqq.f k s lo hi=some (decide (lo≤s.size) && decide ((s.size:Int)≤hi) && prt s):=by
 obtain⟨k,rfl⟩ : ∃ m,k=m + 1:=⟨k - 1,by omega⟩
 unfold qqq.f
 have e:=yprinted_l0 s hs s.size k 0 (by omega) (by omega) (by omega)
 by_cases h1:(s.size:Int) < lo
 ·rw[if_pos h1]
  simp only[qqq.j0,if_true]
  simp;omega
 ·rw[if_neg h1]
  have h1':decide (lo≤(s.size:Int))=true:=decide_eq_true (by omega)
  by_cases h2:(s.size:Int)≤hi
  ·have h2':decide ((s.size:Int) > hi)=false:=decide_eq_false (by omega)
   have h2'':decide ((s.size:Int)≤hi)=true:=decide_eq_true h2
   rw[h1',h2',h2'']
   simp only[qqq.j0,Bool.false_eq_true,if_false,Bool.true_and]
   exact e
  ·have h2':decide ((s.size:Int) > hi)=true:=decide_eq_true (by omega)
   have h2'':decide ((s.size:Int)≤hi)=false:=decide_eq_false h2
   rw[h1',h2',h2'']
   simp[qqq.j0]
abbrev CliS:=S77
def badRed (s:ByteArray):Bool:=!(decide ((1:Int)≤s.size) && decide ((s.size:Int)≤200) && prt s)
def badKind (n:Int):Bool:=if n < 1 then true else decide (n > 4)
def tailC (e:CliS) (b:Bool):Bool:=if e.f1.length=0∨e.f1.length=16 then(if e.f2.length≤5 then(if scopesL e.f3=true then(if e.f4.length≤4 then(if e.f2.any badRed=true then false else if e.f4.any badKind=true then false else b) else false) else false) else false) else false
def aheadC (l:List CliS) (i:Nat):Prop:=0 < i∧¬ cmpT (kw l ((i - 1:Nat):Int)).f0 (kw l (i:Int)).f0 < 0
instance (l:List CliS) (i:Nat):Decidable (aheadC l i):=by unfold aheadC;exact inferInstance
def srvN (l:List CliS) (fin:Bool):Nat→Bool
 | 0=>fin
 | d + 1=>if goodId (kw l ((l.length - (d + 1):Nat):Int)).f0=true then(if aheadC l (l.length - (d + 1)) then false else tailC (kw l ((l.length - (d + 1):Nat):Int)) (srvN l fin d)) else false
theorem tailC_false (e:CliS):tailC e false=false:=by
 unfold tailC
 repeat(first|rfl|split)
theorem srvN_false (l:List CliS):∀ d,srvN l false d=false
 | 0=>rfl
 | d + 1=>by
  unfold srvN
  rw[srvN_false l d,tailC_false]
  repeat(first|rfl|split)
def limS (n key:Nat) (s g:Int):Bool:=if n≤20∧key≤64∧1≤s∧s≤1000000∧1≤g then decide (g≤1000000) else false
def goodServer (l:List CliS) (key:List Int) (s g:Int):Bool:=srvN l (limS l.length key.length s g) l.length
def okSrv (l:List CliS):Prop:=l.length≤1048576∧∀ e ∈ l,smCl e.f0 e.f1 e.f2 e.f3 e.f4
theorem badRed_impl (s:ByteArray) (hs:s.size≤1048576):Ev (fun k=>wv.f k s) (badRed s):=by
 simp only[wv.f]
 exact Ev.bind (⟨s.size + 2,fun k hk=>yprinted_eq s 1 200 (by omega) k (by omega)⟩ : Ev (fun k=>qqq.f k s 1 200) _) (Ev.now _)
theorem redirs_ev (l:List ByteArray) (ho:okTexts l):Ev (fun k=>has_impl_GoodServer_1.f k l) (l.any badRed):=anyO_ev (fun k x=>wv.f k x) badRed l (fun x hx=>badRed_impl x (ho.2 x hx))
theorem kinds_ev (l:List Int):Ev (fun k=>has_impl_GoodServer_2.f k l) (l.any badKind):=anyO_ev (fun k x=>ww.f x) badKind l (fun x hx=>by
 unfold ww.f badKind
 by_cases h:x < 1
 ·simp only[if_pos h];exact Ev.now _
 ·simp only[if_neg h];exact Ev.now _)
theorem iSrv_j2 (e:CliS) (hs:smCl e.f0 e.f1 e.f2 e.f3 e.f4) (a:List CliS) (b c:Int) (x:List CliS) (y:List Int) (s g:Int) (v:Bool) (h:Ev (fun k=>wk.l0 k a b (wrap64 (c + 1)) x y s g) v) :
  Ev (fun k=>wk.j2 k a b c false x y s g e.f0 e.f1 e.f2 e.f3 e.f4) (if e.f2.any badRed=true then false else if e.f4.any badKind=true then false else v):=by
 refine Ev.upW ?_
 simp only[wk.j2,if_neg (show ¬ (false=true) by decide)]
 refine Ev.bind (redirs_ev e.f2 hs.2.2.1) ?_
 by_cases h1:e.f2.any badRed=true
 ·simp only[if_pos h1];exact Ev.now _
 simp only[if_neg h1]
 refine Ev.bind (kinds_ev e.f4) ?_
 by_cases h2:e.f4.any badKind=true
 ·simp only[if_pos h2];exact Ev.now _
 simp only[if_neg h2]
 exact h
theorem iSrv_true (e:CliS) (a:List CliS) (b c:Int) (x:List CliS) (y:List Int) (s g:Int):Ev (fun k=>wk.j2 k a b c true x y s g e.f0 e.f1 e.f2 e.f3 e.f4) false:=by
 refine Ev.upW ?_
 simp only[wk.j2,if_true]
 exact Ev.now _
theorem sSrv_true (e:CliS) (a:List CliS) (b c:Int) (x:List CliS) (y:List Int) (s g:Int):Ev (fun k=>qvz.j1 k a b c true x y s g e.f0 e.f1 e.f2 e.f3 e.f4) false:=by
 refine Ev.upW ?_
 simp only[qvz.j1,if_true]
 exact Ev.now _
theorem sSrv_l2 (a:List CliS) (b c:Int) (l:List Int) (hl:l.length≤1048576) (x:List CliS) (y:List Int) (s g:Int) (v:Bool) (h:Ev (fun k=>qvz.l0 k a b (wrap64 (c + 1)) x y s g) v) (d:Nat) :
  ∀ i:Nat,i + d=l.length→Ev (fun k=>qvz.l2 k a b c l (l.length:Int) (i:Int) x y s g) (if (l.drop i).any badKind=true then false else v):=by
 induction d with
 | zero =>
  intro i hi
  refine Ev.upW ?_
  simp only[qvz.l2,if_neg (show ¬ (i:Int) < (l.length:Int) by omega)]
  rw[show l.drop i=[] from List.drop_of_length_le (by omega)]
  simp only[List.any_nil,if_neg (show ¬ (false=true) by decide)]
  exact h
 | succ d ih =>
  intro i hi
  have hlt:i < l.length:=by omega
  have hrest:=ih (i + 1) (by omega)
  rw[← wrap_succ hlt (by omega)] at hrest
  refine Ev.upW ?_
  simp only[qvz.l2,if_pos (show(i:Int) < (l.length:Int) by omega),if_pos (Int.natCast_nonneg i)]
  rw[List.drop_eq_getElem_cons hlt,List.any_cons,← rd_nat hlt]
  unfold badKind at hrest ⊢
  by_cases h1:rd l (i:Int) < 1
  ·simp only[if_pos h1,Bool.true_or,if_true];exact Ev.now _
  by_cases h2:rd l (i:Int) > 4
  ·simp only[if_neg h1,if_pos h2,decide_eq_true h2,Bool.true_or,if_true];exact Ev.now _
  simp only[if_neg h1,if_neg h2,decide_eq_false h2,Bool.false_or]
  exact hrest
theorem sSrv_l1 (e:CliS) (hs:smCl e.f0 e.f1 e.f2 e.f3 e.f4) (a:List CliS) (b c:Int) (x:List CliS) (y:List Int) (s g:Int) (v:Bool) (h:Ev (fun k=>qvz.l0 k a b (wrap64 (c + 1)) x y s g) v) (d:Nat) :
  ∀ i:Nat,i + d=e.f2.length→Ev (fun k=>qvz.l1 k a b c e.f2 (e.f2.length:Int) (i:Int) x y s g e.f0 e.f1 e.f2 e.f3 e.f4) (if (e.f2.drop i).any badRed=true then false else if e.f4.any badKind=true then false else v):=by
 have hl:=hs.2.2.1.1
 induction d with
 | zero =>
  intro i hi
  refine Ev.upW ?_
  simp only[qvz.l1,if_neg (show ¬ (i:Int) < (e.f2.length:Int) by omega)]
  rw[show e.f2.drop i=[] from List.drop_of_length_le (by omega)]
  simp only[List.any_nil,if_neg (show ¬ (false=true) by decide)]
  exact sSrv_l2 a b c e.f4 hs.2.2.2.2 x y s g v h e.f4.length 0 (by omega)
 | succ d ih =>
  intro i hi
  have hlt:i < e.f2.length:=by omega
  have hrest:=ih (i + 1) (by omega)
  rw[← wrap_succ hlt (by omega)] at hrest
  have hs1:=rd_sizes hs.2.2.1 hlt
  refine Ev.upW ?_
  simp only[qvz.l1,if_pos (show(i:Int) < (e.f2.length:Int) by omega),if_pos (Int.natCast_nonneg i)]
  rw[List.drop_eq_getElem_cons hlt,List.any_cons,← rdStr_nat hlt]
  by_cases h1:((rdOf ByteArray.empty e.f2 (i:Int)).size:Int) < 1
  ·have hb:badRed (rdOf ByteArray.empty e.f2 (i:Int))=true:=by unfold badRed;rw[decide_eq_false (by omega)];simp
   simp only[if_pos h1,hb,Bool.true_or,if_true];exact Ev.now _
  by_cases h2:((rdOf ByteArray.empty e.f2 (i:Int)).size:Int) > 200
  ·have hb:badRed (rdOf ByteArray.empty e.f2 (i:Int))=true:=by unfold badRed;rw[decide_eq_false (show ¬ ((rdOf ByteArray.empty e.f2 (i:Int)).size:Int)≤200 by omega)];simp
   simp only[if_neg h1,if_pos h2,hb,Bool.true_or,if_true];exact Ev.now _
  have hb:badRed (rdOf ByteArray.empty e.f2 (i:Int)) = !prt (rdOf ByteArray.empty e.f2 (i:Int)):=by unfold badRed;rw[decide_eq_true (by omega),decide_eq_true (by omega)];rfl
  simp only[if_neg h1,if_neg h2,hb]
  refine Ev.bind (⟨(rdOf ByteArray.empty e.f2 (i:Int)).size + 1,fun k hk=>l1Printed_eq _ (by omega) k (by omega)⟩ : Ev (fun k=>qwz.f k (rdOf ByteArray.empty e.f2 (i:Int))) _) ?_
  by_cases h3:prt (rdOf ByteArray.empty e.f2 (i:Int))=true
  ·simp only[h3,if_true,Bool.not_true,Bool.false_or]
   exact hrest
  ·simp only[if_neg h3,jq9.2 h3,Bool.not_false,Bool.true_or,if_true]
   exact Ev.now _
theorem sSrv_j1 (e:CliS) (hs:smCl e.f0 e.f1 e.f2 e.f3 e.f4) (a:List CliS) (b c:Int) (x:List CliS) (y:List Int) (s g:Int) (v:Bool) (h:Ev (fun k=>qvz.l0 k a b (wrap64 (c + 1)) x y s g) v) :
  Ev (fun k=>qvz.j1 k a b c false x y s g e.f0 e.f1 e.f2 e.f3 e.f4) (if e.f2.any badRed=true then false else if e.f4.any badKind=true then false else v):=by
 refine Ev.upW ?_
 simp only[qvz.j1,if_neg (show ¬ (false=true) by decide)]
 exact sSrv_l1 e hs a b c x y s g v h e.f2.length 0 (by omega)
theorem implSrv_l0 (l:List CliS) (key:List Int) (s g:Int) (ho:okSrv l) (d:Nat):∀ i:Nat,i + d=l.length→Ev (fun k=>wk.l0 k l (l.length:Int) (i:Int) l key s g) (srvN l true d):=by
 have hl:=ho.1
 induction d with
 | zero =>
  intro i hi
  refine Ev.upW ?_
  simp only[wk.l0,if_neg (show ¬ (i:Int) < (l.length:Int) by omega)]
  exact Ev.now _
 | succ d ih =>
  intro i hi
  have hlt:i < l.length:=by omega
  have hs:=ho.2 _ (List.getElem_mem hlt)
  rw[← rdCI_nat hlt] at hs
  have hrest:=ih (i + 1) (by omega)
  rw[← wrap_succ hlt (by omega)] at hrest
  have htrue:Ev (fun k=>(wk.j2 k l (l.length:Int) (i:Int) true l key s g (kw l (i:Int)).f0 (kw l (i:Int)).f1 (kw l (i:Int)).f2 (kw l (i:Int)).f3 (kw l (i:Int)).f4)) false:=iSrv_true (kw l (i:Int)) l (l.length:Int) (i:Int) l key s g
  have hA:Ev (fun k=>(if ((kw l (i:Int)).f2.length:Int) > 5 then(wk.j2 k l (l.length:Int) (i:Int) true l key s g (kw l (i:Int)).f0 (kw l (i:Int)).f1 (kw l (i:Int)).f2 (kw l (i:Int)).f3 (kw l (i:Int)).f4) else((xv.f k (kw l (i:Int)).f3).bind fun t=>(if t=true then(wk.j2 k l (l.length:Int) (i:Int) (decide (((kw l (i:Int)).f4.length:Int) > 4)) l key s g (kw l (i:Int)).f0 (kw l (i:Int)).f1 (kw l (i:Int)).f2 (kw l (i:Int)).f3 (kw l (i:Int)).f4) else(wk.j2 k l (l.length:Int) (i:Int) true l key s g (kw l (i:Int)).f0 (kw l (i:Int)).f1 (kw l (i:Int)).f2 (kw l (i:Int)).f3 (kw l (i:Int)).f4))))) (if (kw l (i:Int)).f2.length≤5 then(if scopesL (kw l (i:Int)).f3=true then(if (kw l (i:Int)).f4.length≤4 then(if (kw l (i:Int)).f2.any badRed=true then false else if (kw l (i:Int)).f4.any badKind=true then false else srvN l true d) else false) else false) else false):=by
   by_cases h2:(kw l (i:Int)).f2.length≤5
   ·simp only[if_pos h2,if_neg (show ¬ ((kw l (i:Int)).f2.length:Int) > 5 by omega)]
    refine Ev.bind (yfitScopes_ev (kw l (i:Int)).f3 hs.2.2.2.1) ?_
    by_cases h3:scopesL (kw l (i:Int)).f3=true
    ·simp only[if_pos h3]
     by_cases h4:(kw l (i:Int)).f4.length≤4
     ·simp only[if_pos h4,decide_eq_false (show ¬ ((kw l (i:Int)).f4.length:Int) > 4 by omega)]
      exact iSrv_j2 (kw l (i:Int)) hs l (l.length:Int) (i:Int) l key s g _ hrest
     ·simp only[if_neg h4,decide_eq_true (show((kw l (i:Int)).f4.length:Int) > 4 by omega)]
      exact htrue
    ·simp only[if_neg h3]
     exact htrue
   ·simp only[if_neg h2,if_pos (show((kw l (i:Int)).f2.length:Int) > 5 by omega)]
    exact htrue
  have htail:Ev (fun k=>(if ((kw l (i:Int)).f1.length:Int)=0 then(if ((kw l (i:Int)).f2.length:Int) > 5 then(wk.j2 k l (l.length:Int) (i:Int) true l key s g (kw l (i:Int)).f0 (kw l (i:Int)).f1 (kw l (i:Int)).f2 (kw l (i:Int)).f3 (kw l (i:Int)).f4) else((xv.f k (kw l (i:Int)).f3).bind fun t=>(if t=true then(wk.j2 k l (l.length:Int) (i:Int) (decide (((kw l (i:Int)).f4.length:Int) > 4)) l key s g (kw l (i:Int)).f0 (kw l (i:Int)).f1 (kw l (i:Int)).f2 (kw l (i:Int)).f3 (kw l (i:Int)).f4) else(wk.j2 k l (l.length:Int) (i:Int) true l key s g (kw l (i:Int)).f0 (kw l (i:Int)).f1 (kw l (i:Int)).f2 (kw l (i:Int)).f3 (kw l (i:Int)).f4)))) else(if ((kw l (i:Int)).f1.length:Int)=16 then(if ((kw l (i:Int)).f2.length:Int) > 5 then(wk.j2 k l (l.length:Int) (i:Int) true l key s g (kw l (i:Int)).f0 (kw l (i:Int)).f1 (kw l (i:Int)).f2 (kw l (i:Int)).f3 (kw l (i:Int)).f4) else((xv.f k (kw l (i:Int)).f3).bind fun t=>(if t=true then(wk.j2 k l (l.length:Int) (i:Int) (decide (((kw l (i:Int)).f4.length:Int) > 4)) l key s g (kw l (i:Int)).f0 (kw l (i:Int)).f1 (kw l (i:Int)).f2 (kw l (i:Int)).f3 (kw l (i:Int)).f4) else(wk.j2 k l (l.length:Int) (i:Int) true l key s g (kw l (i:Int)).f0 (kw l (i:Int)).f1 (kw l (i:Int)).f2 (kw l (i:Int)).f3 (kw l (i:Int)).f4)))) else(wk.j2 k l (l.length:Int) (i:Int) true l key s g (kw l (i:Int)).f0 (kw l (i:Int)).f1 (kw l (i:Int)).f2 (kw l (i:Int)).f3 (kw l (i:Int)).f4)))) (tailC (kw l (i:Int)) (srvN l true d)):=by
   unfold tailC
   by_cases h1:(kw l (i:Int)).f1.length=0
   ·simp only[if_pos (show(kw l (i:Int)).f1.length=0∨(kw l (i:Int)).f1.length=16 from .inl h1),if_pos (show((kw l (i:Int)).f1.length:Int)=0 by omega)]
    exact hA
   ·by_cases h2:(kw l (i:Int)).f1.length=16
    ·simp only[if_pos (show(kw l (i:Int)).f1.length=0∨(kw l (i:Int)).f1.length=16 from .inr h2),if_neg (show ¬ ((kw l (i:Int)).f1.length:Int)=0 by omega),if_pos (show((kw l (i:Int)).f1.length:Int)=16 by omega)]
     exact hA
    ·simp only[if_neg (show ¬ ((kw l (i:Int)).f1.length=0∨(kw l (i:Int)).f1.length=16) from fun h=>h.elim h1 h2),if_neg (show ¬ ((kw l (i:Int)).f1.length:Int)=0 by omega),if_neg (show ¬ ((kw l (i:Int)).f1.length:Int)=16 by omega)]
     exact htrue
  refine Ev.upW ?_
  simp only[wk.l0,srvN,show l.length - (d + 1)=i by omega,if_pos (show(i:Int) < (l.length:Int) by omega),if_pos (Int.natCast_nonneg i)]
  refine Ev.bind (implId_ev _ (by have:=hs.1;omega)) ?_
  by_cases hid:goodId (kw l (i:Int)).f0=true
  ·simp only[if_pos hid]
   by_cases h0 : 0 < i
   ·have e3:wrap64 ((i:Int) - 1)=((i - 1:Nat):Int):=by rw[w64 (by omega) (by omega)];omega
    have hs1:=ho.2 _ (List.getElem_mem (show i - 1 < l.length by omega))
    rw[← rdCI_nat (show i - 1 < l.length by omega)] at hs1
    simp only[if_pos (show(i:Int) > 0 by omega),e3,if_pos (Int.natCast_nonneg (i - 1)),if_pos (show((i - 1:Nat):Int) < (l.length:Int) by omega),cmpT_less]
    by_cases hc:cmpT (kw l ((i - 1:Nat):Int)).f0 (kw l (i:Int)).f0 < 0
    ·simp only[decide_eq_true hc,if_true,if_neg (show ¬ aheadC l i from fun h=>h.2 hc)]
     exact htail
    ·simp only[decide_eq_false hc,if_neg (show ¬ (false=true) by decide),if_pos (show aheadC l i from⟨h0,hc⟩)]
     exact htrue
   ·simp only[if_neg (show ¬ (i:Int) > 0 by omega),if_neg (show ¬ aheadC l i from fun h=>h0 h.1)]
    exact htail
  ·simp only[if_neg hid]
   first|exact htrue|exact Ev.now _
theorem specSrv_l0 (l:List CliS) (key:List Int) (s g:Int) (ho:okSrv l) (d:Nat):∀ i:Nat,i + d=l.length→Ev (fun k=>qvz.l0 k l (l.length:Int) (i:Int) l key s g) (srvN l (limS l.length key.length s g) d):=by
 have hl:=ho.1
 induction d with
 | zero =>
  intro i hi
  refine Ev.upW ?_
  simp only[qvz.l0,if_neg (show ¬ (i:Int) < (l.length:Int) by omega)]
  unfold srvN limS
  by_cases h1:l.length≤20
  ·by_cases h2:key.length≤64
   ·by_cases h3 : 1≤s
    ·by_cases h4:s≤1000000
     ·by_cases h5 : 1≤g
      ·simp only[if_pos (show(l.length:Int)≤20 by omega),if_pos (show(key.length:Int)≤64 by omega),if_pos (show s ≥ 1 from h3),if_pos h4,if_pos (show g ≥ 1 from h5),if_pos (show l.length≤20∧key.length≤64∧1≤s∧s≤1000000∧1≤g from⟨h1,h2,h3,h4,h5⟩)]
       exact Ev.now _
      ·simp only[if_pos (show(l.length:Int)≤20 by omega),if_pos (show(key.length:Int)≤64 by omega),if_pos (show s ≥ 1 from h3),if_pos h4,if_neg (show ¬ g ≥ 1 from h5),if_neg (show ¬ (l.length≤20∧key.length≤64∧1≤s∧s≤1000000∧1≤g) from fun h=>h5 h.2.2.2.2)]
       exact Ev.now _
     ·simp only[if_pos (show(l.length:Int)≤20 by omega),if_pos (show(key.length:Int)≤64 by omega),if_pos (show s ≥ 1 from h3),if_neg h4,if_neg (show ¬ (l.length≤20∧key.length≤64∧1≤s∧s≤1000000∧1≤g) from fun h=>h4 h.2.2.2.1)]
      exact Ev.now _
    ·simp only[if_pos (show(l.length:Int)≤20 by omega),if_pos (show(key.length:Int)≤64 by omega),if_neg (show ¬ s ≥ 1 from h3),if_neg (show ¬ (l.length≤20∧key.length≤64∧1≤s∧s≤1000000∧1≤g) from fun h=>h3 h.2.2.1)]
     exact Ev.now _
   ·simp only[if_pos (show(l.length:Int)≤20 by omega),if_neg (show ¬ (key.length:Int)≤64 by omega),if_neg (show ¬ (l.length≤20∧key.length≤64∧1≤s∧s≤1000000∧1≤g) from fun h=>h2 h.2.1)]
    exact Ev.now _
  ·simp only[if_neg (show ¬ (l.length:Int)≤20 by omega),if_neg (show ¬ (l.length≤20∧key.length≤64∧1≤s∧s≤1000000∧1≤g) from fun h=>h1 h.1)]
   exact Ev.now _
 | succ d ih =>
  intro i hi
  have hlt:i < l.length:=by omega
  have hs:=ho.2 _ (List.getElem_mem hlt)
  rw[← rdCI_nat hlt] at hs
  have hrest:=ih (i + 1) (by omega)
  rw[← wrap_succ hlt (by omega)] at hrest
  have htrue:Ev (fun k=>(qvz.j1 k l (l.length:Int) (i:Int) true l key s g (kw l (i:Int)).f0 (kw l (i:Int)).f1 (kw l (i:Int)).f2 (kw l (i:Int)).f3 (kw l (i:Int)).f4)) false:=sSrv_true (kw l (i:Int)) l (l.length:Int) (i:Int) l key s g
  have hA:Ev (fun k=>(if ((kw l (i:Int)).f2.length:Int) > 5 then(qvz.j1 k l (l.length:Int) (i:Int) true l key s g (kw l (i:Int)).f0 (kw l (i:Int)).f1 (kw l (i:Int)).f2 (kw l (i:Int)).f3 (kw l (i:Int)).f4) else((qvk.f k (kw l (i:Int)).f3).bind fun t=>(if t=true then(qvz.j1 k l (l.length:Int) (i:Int) (decide (((kw l (i:Int)).f4.length:Int) > 4)) l key s g (kw l (i:Int)).f0 (kw l (i:Int)).f1 (kw l (i:Int)).f2 (kw l (i:Int)).f3 (kw l (i:Int)).f4) else(qvz.j1 k l (l.length:Int) (i:Int) true l key s g (kw l (i:Int)).f0 (kw l (i:Int)).f1 (kw l (i:Int)).f2 (kw l (i:Int)).f3 (kw l (i:Int)).f4))))) (if (kw l (i:Int)).f2.length≤5 then(if scopesL (kw l (i:Int)).f3=true then(if (kw l (i:Int)).f4.length≤4 then(if (kw l (i:Int)).f2.any badRed=true then false else if (kw l (i:Int)).f4.any badKind=true then false else srvN l (limS l.length key.length s g) d) else false) else false) else false):=by
   by_cases h2:(kw l (i:Int)).f2.length≤5
   ·simp only[if_pos h2,if_neg (show ¬ ((kw l (i:Int)).f2.length:Int) > 5 by omega)]
    refine Ev.bind (l18Scopes_ev (kw l (i:Int)).f3 hs.2.2.2.1) ?_
    by_cases h3:scopesL (kw l (i:Int)).f3=true
    ·simp only[if_pos h3]
     by_cases h4:(kw l (i:Int)).f4.length≤4
     ·simp only[if_pos h4,decide_eq_false (show ¬ ((kw l (i:Int)).f4.length:Int) > 4 by omega)]
      exact sSrv_j1 (kw l (i:Int)) hs l (l.length:Int) (i:Int) l key s g _ hrest
     ·simp only[if_neg h4,decide_eq_true (show((kw l (i:Int)).f4.length:Int) > 4 by omega)]
      exact htrue
    ·simp only[if_neg h3]
     exact htrue
   ·simp only[if_neg h2,if_pos (show((kw l (i:Int)).f2.length:Int) > 5 by omega)]
    exact htrue
  have htail:Ev (fun k=>(if ((kw l (i:Int)).f1.length:Int)=0 then(if ((kw l (i:Int)).f2.length:Int) > 5 then(qvz.j1 k l (l.length:Int) (i:Int) true l key s g (kw l (i:Int)).f0 (kw l (i:Int)).f1 (kw l (i:Int)).f2 (kw l (i:Int)).f3 (kw l (i:Int)).f4) else((qvk.f k (kw l (i:Int)).f3).bind fun t=>(if t=true then(qvz.j1 k l (l.length:Int) (i:Int) (decide (((kw l (i:Int)).f4.length:Int) > 4)) l key s g (kw l (i:Int)).f0 (kw l (i:Int)).f1 (kw l (i:Int)).f2 (kw l (i:Int)).f3 (kw l (i:Int)).f4) else(qvz.j1 k l (l.length:Int) (i:Int) true l key s g (kw l (i:Int)).f0 (kw l (i:Int)).f1 (kw l (i:Int)).f2 (kw l (i:Int)).f3 (kw l (i:Int)).f4)))) else(if ((kw l (i:Int)).f1.length:Int)=16 then(if ((kw l (i:Int)).f2.length:Int) > 5 then(qvz.j1 k l (l.length:Int) (i:Int) true l key s g (kw l (i:Int)).f0 (kw l (i:Int)).f1 (kw l (i:Int)).f2 (kw l (i:Int)).f3 (kw l (i:Int)).f4) else((qvk.f k (kw l (i:Int)).f3).bind fun t=>(if t=true then(qvz.j1 k l (l.length:Int) (i:Int) (decide (((kw l (i:Int)).f4.length:Int) > 4)) l key s g (kw l (i:Int)).f0 (kw l (i:Int)).f1 (kw l (i:Int)).f2 (kw l (i:Int)).f3 (kw l (i:Int)).f4) else(qvz.j1 k l (l.length:Int) (i:Int) true l key s g (kw l (i:Int)).f0 (kw l (i:Int)).f1 (kw l (i:Int)).f2 (kw l (i:Int)).f3 (kw l (i:Int)).f4)))) else(qvz.j1 k l (l.length:Int) (i:Int) true l key s g (kw l (i:Int)).f0 (kw l (i:Int)).f1 (kw l (i:Int)).f2 (kw l (i:Int)).f3 (kw l (i:Int)).f4)))) (tailC (kw l (i:Int)) (srvN l (limS l.length key.length s g) d)):=by
   unfold tailC
   by_cases h1:(kw l (i:Int)).f1.length=0
   ·simp only[if_pos (show(kw l (i:Int)).f1.length=0∨(kw l (i:Int)).f1.length=16 from .inl h1),if_pos (show((kw l (i:Int)).f1.length:Int)=0 by omega)]
    exact hA
   ·by_cases h2:(kw l (i:Int)).f1.length=16
    ·simp only[if_pos (show(kw l (i:Int)).f1.length=0∨(kw l (i:Int)).f1.length=16 from .inr h2),if_neg (show ¬ ((kw l (i:Int)).f1.length:Int)=0 by omega),if_pos (show((kw l (i:Int)).f1.length:Int)=16 by omega)]
     exact hA
    ·simp only[if_neg (show ¬ ((kw l (i:Int)).f1.length=0∨(kw l (i:Int)).f1.length=16) from fun h=>h.elim h1 h2),if_neg (show ¬ ((kw l (i:Int)).f1.length:Int)=0 by omega),if_neg (show ¬ ((kw l (i:Int)).f1.length:Int)=16 by omega)]
     exact htrue
  refine Ev.upW ?_
  simp only[qvz.l0,srvN,show l.length - (d + 1)=i by omega,if_pos (show(i:Int) < (l.length:Int) by omega),if_pos (Int.natCast_nonneg i)]
  refine Ev.bind (specId_ev _ (by have:=hs.1;omega)) ?_
  by_cases hid:goodId (kw l (i:Int)).f0=true
  ·simp only[if_pos hid]
   by_cases h0 : 0 < i
   ·have e3:wrap64 ((i:Int) - 1)=((i - 1:Nat):Int):=by rw[w64 (by omega) (by omega)];omega
    have hs1:=ho.2 _ (List.getElem_mem (show i - 1 < l.length by omega))
    rw[← rdCI_nat (show i - 1 < l.length by omega)] at hs1
    simp only[if_pos (show(i:Int) > 0 by omega),e3,if_pos (Int.natCast_nonneg (i - 1)),if_pos (show((i - 1:Nat):Int) < (l.length:Int) by omega)]
    refine Ev.bind (cmpT_ev _ _ (by have:=hs1.1;omega) (by have:=hs.1;omega)) ?_
    by_cases hc:cmpT (kw l ((i - 1:Nat):Int)).f0 (kw l (i:Int)).f0 < 0
    ·simp only[if_neg (show ¬ cmpT (kw l ((i - 1:Nat):Int)).f0 (kw l (i:Int)).f0 ≥ 0 by omega),if_neg (show ¬ aheadC l i from fun h=>h.2 hc)]
     exact htail
    ·simp only[if_pos (show cmpT (kw l ((i - 1:Nat):Int)).f0 (kw l (i:Int)).f0 ≥ 0 by omega),if_pos (show aheadC l i from⟨h0,hc⟩)]
     exact htrue
   ·simp only[if_neg (show ¬ (i:Int) > 0 by omega),if_neg (show ¬ aheadC l i from fun h=>h0 h.1)]
    exact htail
  ·simp only[if_neg hid]
   first|exact htrue|exact Ev.now _
theorem specServer_ev (l:List CliS) (key:List Int) (s g:Int) (ho:okSrv l):Ev (fun k=>qvz.f k l key s g) (goodServer l key s g):=specSrv_l0 l key s g ho l.length 0 (by omega)
theorem implServer_ev (l:List CliS) (key:List Int) (s g:Int) (ho:okSrv l):Ev (fun k=>wk.f k l key s g) (goodServer l key s g):=by
 have h:=implSrv_l0 l key s g ho l.length 0 (by omega)
 have hj:∀ b:Bool,Ev (fun k=>wk.j0 k b l key s g) (if b=true then false else srvN l true l.length):=fun b=>by
  refine Ev.upW ?_
  simp only[wk.j0]
  cases b with
  | true=>simp only[if_true];exact Ev.now _
  | false=>simp only[if_neg (show ¬ (false=true) by decide)];exact h
 have ht:=hj true
 rw[if_pos rfl] at ht
 unfold goodServer limS
 simp only[wk.f]
 by_cases h1:l.length≤20
 case neg=>rw[if_neg (fun h=>h1 h.1),srvN_false];simp only[if_pos (show(l.length:Int) > 20 by omega)];exact ht
 simp only[if_neg (show ¬ (l.length:Int) > 20 by omega)]
 by_cases h2:key.length≤64
 case neg=>rw[if_neg (fun h=>h2 h.2.1),srvN_false];simp only[if_pos (show(key.length:Int) > 64 by omega)];exact ht
 simp only[if_neg (show ¬ (key.length:Int) > 64 by omega)]
 by_cases h3 : 1≤s
 case neg=>rw[if_neg (fun h=>h3 h.2.2.1),srvN_false];simp only[if_pos (show s < 1 by omega)];exact ht
 simp only[if_neg (show ¬ s < 1 by omega)]
 by_cases h4:s≤1000000
 case neg=>rw[if_neg (fun h=>h4 h.2.2.2.1),srvN_false];simp only[if_pos (show s > 1000000 by omega)];exact ht
 simp only[if_neg (show ¬ s > 1000000 by omega)]
 by_cases h5 : 1≤g
 case neg=>rw[if_neg (fun h=>h5 h.2.2.2.2),srvN_false];simp only[if_pos (show g < 1 by omega)];exact ht
 simp only[if_neg (show ¬ g < 1 by omega)]
 rw[if_pos ⟨h1,h2,h3,h4,h5⟩]
 have hd:=hj (decide (g > 1000000))
 by_cases h6:g≤1000000
 ·rw[decide_eq_true h6]
  rw[decide_eq_false (show ¬ g > 1000000 by omega)] at hd ⊢
  exact hd
 ·rw[decide_eq_false h6,srvN_false]
  rw[decide_eq_true (show g > 1000000 by omega)] at hd ⊢
  exact hd
def inP (a:List Int):Prop:=a.length=4∧∀ j,j < 4→0≤a.getD j 0∧a.getD j 0 < 2147483579
theorem inP_start:inP [11,22,33,44]:=⟨rfl,by decide⟩
theorem inP_mix {a:List Int} (h:inP a) (x:Int) (hx : 0≤x):inP (dgMix a x):=⟨by rw[dgMix,mix_len,h.1],mix_bd a x hx h.1 h.2 4 (by omega)⟩
theorem dgAll_cons (a:List Int) (x:Int) (l:List Int):dgAll a (x :: l)=dgAll (dgMix a x) l:=rfl
theorem mt_at (i:Nat) (h:i < 4):rd [1103515245,69069,1664525,22695477] (i:Int)=mulT.getD i 0:=by
 match i,h with
 | 0,_=>rfl
 | 1,_=>rfl
 | 2,_=>rfl
 | 3,_=>rfl
theorem rd_getD (l:List Int) (i:Nat):rd l (i:Int)=l.getD i 0:=by simp[rd]
theorem specMix_step (l:List Int) (h:inP l) (x:Int) (hx : 0≤x∧x≤255) (i:Nat) (hi:i < 4) (k:Nat) :
  qww.l0 (k + 1) (mixN l x i) x [1103515245,69069,1664525,22695477] i=qww.l0 k (mixN l x (i + 1)) x [1103515245,69069,1664525,22695477] ((i + 1:Nat):Int):=by
 have hlen:(mixN l x i).length=4:=by rw[mix_len,h.1]
 have b1:=mix_bd l x hx.1 h.1 h.2 i (by omega) i hi
 have b2:=mix_bd l x hx.1 h.1 h.2 i (by omega) ((i + 1) % 4) (by omega)
 have b3:=mulOk i hi
 simp only[qww.l0]
 rw[w64 (n:=(i:Int) + 1) (by omega) (by omega)]
 have e6:Int.tmod ((i:Int) + 1) 4=((i + 1) % 4:Nat):=by rw[Int.tmod_eq_emod_of_nonneg (by omega)];omega
 rw[e6,mt_at i hi,rd_getD,rd_getD]
 obtain⟨p1,e1⟩ : ∃ p,p=(mixN l x i).getD i 0:=⟨_,rfl⟩
 obtain⟨p2,e2⟩ : ∃ p,p=(mixN l x i).getD ((i + 1) % 4) 0:=⟨_,rfl⟩
 obtain⟨p3,e3⟩ : ∃ p,p=mulT.getD i 0:=⟨_,rfl⟩
 have e5:mixN l x (i + 1)=(mixN l x i).set i ((p1 * p3 + x + 1 + p2) % 2147483579):=by rw[e1,e2,e3];rfl
 rw[e5,← e1,← e2,← e3]
 rw[← e1] at b1;rw[← e2] at b2;rw[← e3] at b3
 have b4:=prod_bd b1.1 b1.2 b3.1 b3.2
 rw[if_pos (by omega),if_pos (by omega),if_pos (by omega),if_pos (by simp;omega),if_pos (by omega),if_pos (by omega),w64 (n:=p1 * p3) (by omega) (by omega),w64 (n:=p1 * p3 + x) (by omega) (by omega),w64 (n:=p1 * p3 + x + 1) (by omega) (by omega),w64 (by omega) (by omega),Int.tmod_eq_emod_of_nonneg (by omega),Int.toNat_natCast]
 rfl
theorem specMix_eq (l:List Int) (h:inP l) (x:Int) (hx : 0≤x∧x≤255) (k:Nat) (hk : 5≤k):qww.f k l x=some (dgMix l x):=by
 obtain⟨k,rfl⟩ : ∃ m,k=m + 5:=⟨k - 5,by omega⟩
 unfold qww.f
 have e0:=specMix_step l h x hx 0 (by omega) (k + 4)
 have e1:=specMix_step l h x hx 1 (by omega) (k + 3)
 have e2:=specMix_step l h x hx 2 (by omega) (k + 2)
 have e3:=specMix_step l h x hx 3 (by omega) (k + 1)
 have e4:qww.l0 (k + 1) (mixN l x 4) x [1103515245,69069,1664525,22695477] ((3 + 1:Nat):Int)=some (mixN l x 4):=by
  simp only[qww.l0];rw[if_neg (by omega)]
 exact e0.trans (e1.trans (e2.trans (e3.trans e4)))
theorem tm256 (n:Int) (h : 0≤n):Int.tmod n 256 % 256=n % 256:=by rw[Int.tmod_eq_emod_of_nonneg h];omega
theorem td256 (n:Int) (h : 0≤n) (h2:n≤9223372036854775807):wrap64 (Int.tdiv n 256)=n / 256:=by
 rw[Int.tdiv_eq_ediv_of_nonneg h,w64 (by omega) (by omega)]
theorem specBytes_eq (n:Int) (h : 0≤n) (h2:n≤9223372036854775807) (k:Nat) (hk : 5≤k):qwk.f k n=some (yb n):=by
 obtain⟨k,rfl⟩ : ∃ m,k=m + 5:=⟨k - 5,by omega⟩
 unfold qwk.f
 rw[if_pos (by omega)]
 simp only[Option.bind_some,List.length_replicate]
 simp only[qwk.l0]
 have a1:=td256 n h h2
 have a2:=td256 (n / 256) (by omega) (by omega)
 have a3:=td256 (n / 256 / 256) (by omega) (by omega)
 have w1:wrap64 ((0:Int) + 1)=1:=by unfold wrap64;omega
 have w2:wrap64 ((1:Int) + 1)=2:=by unfold wrap64;omega
 have w3:wrap64 ((2:Int) + 1)=3:=by unfold wrap64;omega
 have w4:wrap64 ((3:Int) + 1)=4:=by unfold wrap64;omega
 rw[w1,w2,w3,w4,a1,a2,a3,tm256 n h,tm256 _ (by omega),tm256 _ (by omega),tm256 _ (by omega)]
 simp[yb,List.replicate]
 omega
theorem specDig_l3 (a:List Int) (h:inP a):∀ (k:Nat),10≤k→qwv.l3 k [] a (a.length:Int) 0=some (a.flatMap yb):=by
 intro k hk
 obtain⟨k,rfl⟩ : ∃ m,k=m + 10:=⟨k - 10,by omega⟩
 obtain⟨hl,hb⟩:=h
 match a,hl with
 | [b0,b1,b2,b3],_ =>
  have h0:=hb 0 (by omega)
  have h1:=hb 1 (by omega)
  have h2:=hb 2 (by omega)
  have h3:=hb 3 (by omega)
  simp only[List.getD_cons_zero,List.getD_cons_succ] at h0 h1 h2 h3
  have w1:wrap64 ((0:Int) + 1)=1:=by unfold wrap64;omega
  have w2:wrap64 ((1:Int) + 1)=2:=by unfold wrap64;omega
  have w3:wrap64 ((2:Int) + 1)=3:=by unfold wrap64;omega
  have w4:wrap64 ((3:Int) + 1)=4:=by unfold wrap64;omega
  have r0:rd [b0,b1,b2,b3] 0=b0:=rfl
  have r1:rd [b0,b1,b2,b3] 1=b1:=rfl
  have r2:rd [b0,b1,b2,b3] 2=b2:=rfl
  have r3:rd [b0,b1,b2,b3] 3=b3:=rfl
  simp only[qwv.l3,w1,w2,w3,w4,r0,r1,r2,r3]
  rw[specBytes_eq b0 (by omega) (by omega) _ (by omega),specBytes_eq b1 (by omega) (by omega) _ (by omega),specBytes_eq b2 (by omega) (by omega) _ (by omega),specBytes_eq b3 (by omega) (by omega) _ (by omega)]
  simp[yb]
theorem specDig_l2 (d:Nat):∀ (a:List Int) (k i:Nat),inP a→i + d=8→d + 12≤k→qwv.l2 k a i=some ((dgAll a (List.replicate d 0)).flatMap yb):=by
 induction d with
 | zero =>
  intro a k i h hi hk
  obtain⟨k,rfl⟩ : ∃ m,k=m + 1:=⟨k - 1,by omega⟩
  simp only[qwv.l2]
  rw[if_neg (by omega),specDig_l3 a h k (by omega)];rfl
 | succ d ih =>
  intro a k i h hi hk
  obtain⟨k,rfl⟩ : ∃ m,k=m + 1:=⟨k - 1,by omega⟩
  simp only[qwv.l2]
  rw[if_pos (by omega),specMix_eq a h 0 (by omega) k (by omega)]
  simp only[Option.bind_some]
  rw[w64 (by omega) (by omega),show((i:Int) + 1)=((i + 1:Nat):Int) from rfl,ih (dgMix a 0) k (i + 1) (inP_mix h 0 (by omega)) (by omega) (by omega)]
  rfl
theorem wbyte {x:Int} (h : 0≤x∧x≤255):wrap64 x=x:=w64 (by omega) (by omega)
theorem drop_rd {l:List Int} {i:Nat} (h:i < l.length):l.drop i=rd l i :: l.drop (i + 1):=by rw[List.drop_eq_getElem_cons h,rd_nat h]
theorem specDig_l1 (xs:List Int) (hx:isBytes xs) (hl:xs.length≤1000000000) (d:Nat):∀ (a:List Int) (k i:Nat),inP a→i + d=xs.length→d + 24≤k →
  qwv.l1 k a xs (xs.length:Int) i=some ((dgAll (dgAll a (xs.drop i)) (List.replicate 8 0)).flatMap yb):=by
 induction d with
 | zero =>
  intro a k i h hi hk
  obtain⟨k,rfl⟩ : ∃ m,k=m + 1:=⟨k - 1,by omega⟩
  simp only[qwv.l1]
  rw[if_neg (by omega),List.drop_of_length_le (by omega)]
  exact specDig_l2 8 a k 0 h (by omega) (by omega)
 | succ d ih =>
  intro a k i h hi hk
  obtain⟨k,rfl⟩ : ∃ m,k=m + 1:=⟨k - 1,by omega⟩
  have hlt:i < xs.length:=by omega
  have hb:=hx (rd xs i) (rd_mem hlt)
  simp only[qwv.l1]
  rw[if_pos (by omega),if_pos (by omega),if_pos (by omega),wbyte hb,specMix_eq a h _ hb k (by omega)]
  simp only[Option.bind_some]
  rw[w64 (by omega) (by omega),show((i:Int) + 1)=((i + 1:Nat):Int) from rfl,ih _ k (i + 1) (inP_mix h _ hb.1) (by omega) (by omega),drop_rd hlt,dgAll_cons]
theorem specDig_l0 (xs ys:List Int) (hx:isBytes xs) (hl:xs.length≤1000000000) (hly:ys.length≤1000000000) (d:Nat):∀ (a:List Int) (k i:Nat),inP a→i + d=xs.length→d + 40≤k →
  qwv.l0 k ys a xs (xs.length:Int) i=some ((dgAll (dgAll (dgAll a (xs.drop i)) (yb ys.length)) (List.replicate 8 0)).flatMap yb):=by
 induction d with
 | zero =>
  intro a k i h hi hk
  obtain⟨k,rfl⟩ : ∃ m,k=m + 1:=⟨k - 1,by omega⟩
  simp only[qwv.l0]
  rw[if_neg (by omega),List.drop_of_length_le (by omega),specBytes_eq _ (by omega) (by omega) k (by omega)]
  exact specDig_l1 (yb ys.length) (yb_bytes _) (by rw[yb_len];omega) 4 a k 0 h (by rw[yb_len]) (by omega)
 | succ d ih =>
  intro a k i h hi hk
  obtain⟨k,rfl⟩ : ∃ m,k=m + 1:=⟨k - 1,by omega⟩
  have hlt:i < xs.length:=by omega
  have hb:=hx (rd xs i) (rd_mem hlt)
  simp only[qwv.l0]
  rw[if_pos (by omega),if_pos (by omega),if_pos (by omega),wbyte hb,specMix_eq a h _ hb k (by omega)]
  simp only[Option.bind_some]
  rw[w64 (by omega) (by omega),show((i:Int) + 1)=((i + 1:Nat):Int) from rfl,ih _ k (i + 1) (inP_mix h _ hb.1) (by omega) (by omega),drop_rd hlt,dgAll_cons]
theorem specDigest_eq (l:List Int) (h:isBytes l) (hl:l.length≤1000000000) (k:Nat) (hk:l.length + 40≤k):qwv.f k l=some (dg l):=by
 have:=specDig_l0 l l h hl hl l.length [11,22,33,44] k 0 inP_start (by omega) hk
 simpa [qwv.f,dg,dgS] using this
theorem specDigest_ev (l:List Int) (h:isBytes l) (hl:l.length≤1000000000):Ev (fun k=>qwv.f k l) (dg l):=⟨_,fun k hk=>specDigest_eq l h hl k hk⟩
theorem implDigest_eq (l:List Int) (h:isBytes l) (hl:l.length≤20000):wq.f l=some (dg l):=by
 unfold wq.f;rw[if_pos h,if_neg (by omega)]
theorem bytesOf_isBytes (s:ByteArray):isBytes (bytesOf s):=by
 intro x hx
 simp only[bytesOf,List.mem_map] at hx
 obtain⟨b,_,rfl⟩:=hx
 have:=b.toNat_lt
 omega
def isCl (c:ByteArray) (e:CliS):Bool:=decide (e.f0.toList=c.toList)
def outCl:Option CliS→ByteArray × List Int × List ByteArray × List ByteArray × List Int × Bool
 | some e=>(e.f0,e.f1,e.f2,e.f3,e.f4,true)
 | none=>((⟨#[]⟩ : ByteArray),([]:List Int),([]:List ByteArray),([]:List ByteArray),([]:List Int),false)
theorem specCl_l0 (l m:List CliS) (y:List Int) (s g:Int) (c z:ByteArray) (p q:Bool) (hl:l.length≤1048576) (d:Nat) :
  ∀ i:Nat,i + d=l.length→Ev (fun k=>qwj.l0 k l (l.length:Int) (i:Int) m y s g c z p q) (outCl ((l.drop i).find? (isCl c))):=by
 induction d with
 | zero =>
  intro i hi
  refine Ev.upW ?_
  simp only[qwj.l0,if_neg (show ¬ (i:Int) < (l.length:Int) by omega)]
  rw[show l.drop i=[] from List.drop_of_length_le (by omega)]
  exact Ev.now _
 | succ d ih =>
  intro i hi
  have hlt:i < l.length:=by omega
  have hrest:=ih (i + 1) (by omega)
  rw[← wrap_succ hlt (by omega)] at hrest
  refine Ev.upW ?_
  simp only[qwj.l0,if_pos (show(i:Int) < (l.length:Int) by omega),if_pos (Int.natCast_nonneg i)]
  rw[List.drop_eq_getElem_cons hlt,List.find?_cons,← rdCI_nat hlt]
  by_cases h:(kw l (i:Int)).f0.toList=c.toList
  ·simp only[if_pos h,show isCl c (kw l (i:Int))=true from decide_eq_true h]
   exact Ev.now _
  ·simp only[if_neg h,show isCl c (kw l (i:Int))=false from decide_eq_false h]
   exact hrest
theorem specCl_ev (l:List CliS) (y:List Int) (s g:Int) (c z:ByteArray) (p q:Bool) (hl:l.length≤1048576):Ev (fun k=>qwj.f k l y s g c z p q) (outCl (l.find? (isCl c))):=by
 have h:=specCl_l0 l l y s g c z p q hl l.length 0 (by omega)
 rw[List.drop_zero] at h
 simp only[qwj.f]
 exact h
theorem implCl_l0 (l:List CliS) (c:ByteArray) (hl:l.length≤1048576) (d:Nat) :
  ∀ i:Nat,i + d=l.length→Ev (fun k=>vw.l0 k c l (l.length:Int) (i:Int)) (outCl ((l.drop i).find? (isCl c))):=by
 induction d with
 | zero =>
  intro i hi
  refine Ev.upW ?_
  simp only[vw.l0,if_neg (show ¬ (i:Int) < (l.length:Int) by omega)]
  rw[show l.drop i=[] from List.drop_of_length_le (by omega)]
  exact Ev.now _
 | succ d ih =>
  intro i hi
  have hlt:i < l.length:=by omega
  have hrest:=ih (i + 1) (by omega)
  rw[← wrap_succ hlt (by omega)] at hrest
  refine Ev.upW ?_
  simp only[vw.l0,vx.f,Option.bind_some,if_pos (show(i:Int) < (l.length:Int) by omega),if_pos (Int.natCast_nonneg i)]
  rw[List.drop_eq_getElem_cons hlt,List.find?_cons,← rdCI_nat hlt]
  by_cases h:(kw l (i:Int)).f0.toList=c.toList
  ·simp only[if_pos h,show isCl c (kw l (i:Int))=true from decide_eq_true h]
   exact Ev.now _
  ·simp only[if_neg h,show isCl c (kw l (i:Int))=false from decide_eq_false h]
   exact hrest
theorem implCl_ev (l:List CliS) (y:List Int) (s g:Int) (c z:ByteArray) (p q:Bool) (hl:l.length≤1048576):Ev (fun k=>vv.f k l y s g c z p q) (outCl (l.find? (isCl c))):=by
 have h:=implCl_l0 l c hl l.length 0 (by omega)
 rw[List.drop_zero] at h
 simp only[vv.f]
 refine Ev.bind (show Ev (fun k=>vw.f k l false c) _ from by simp only[vw.f];exact h) ?_
 exact Ev.now _
def hasOne (l:List Int):Bool:=l.any fun n=>decide (n=1)
theorem specOne_l0 (l:List Int) (hl:l.length≤1048576) (d:Nat):∀ i:Nat,i + d=l.length→Ev (fun k=>qvj.l0 k 1 l (l.length:Int) (i:Int)) (hasOne (l.drop i)):=by
 induction d with
 | zero =>
  intro i hi
  refine Ev.upW ?_
  simp only[qvj.l0,if_neg (show ¬ (i:Int) < (l.length:Int) by omega)]
  rw[show l.drop i=[] from List.drop_of_length_le (by omega)]
  exact Ev.now _
 | succ d ih =>
  intro i hi
  have hlt:i < l.length:=by omega
  have hrest:=ih (i + 1) (by omega)
  rw[← wrap_succ hlt (by omega)] at hrest
  refine Ev.upW ?_
  simp only[qvj.l0,if_pos (show(i:Int) < (l.length:Int) by omega),if_pos (Int.natCast_nonneg i)]
  rw[List.drop_eq_getElem_cons hlt,← rd_nat hlt]
  unfold hasOne at hrest ⊢
  rw[List.any_cons]
  by_cases h:rd l (i:Int)=1
  ·simp only[if_pos h,decide_eq_true h,Bool.true_or]
   exact Ev.now _
  ·simp only[if_neg h,decide_eq_false h,Bool.false_or]
   exact hrest
theorem implOne_l0 (l:List Int) (hl:l.length≤1048576) (d:Nat):∀ i:Nat,i + d=l.length→∃ r:Int,Ev (fun k=>qkw.l0 k l 1 (l.length:Int) (i:Int)) r∧decide (r ≥ 0)=hasOne (l.drop i):=by
 induction d with
 | zero =>
  intro i hi
  refine⟨-1,?_,?_⟩
  ·refine Ev.upW ?_
   simp only[qkw.l0,if_neg (show ¬ (i:Int) < (l.length:Int) by omega)]
   exact Ev.now _
  ·rw[show l.drop i=[] from List.drop_of_length_le (by omega)]
   rfl
 | succ d ih =>
  intro i hi
  have hlt:i < l.length:=by omega
  obtain⟨r,hrest,hr⟩:=ih (i + 1) (by omega)
  rw[← wrap_succ hlt (by omega)] at hrest
  rw[List.drop_eq_getElem_cons hlt,← rd_nat hlt]
  unfold hasOne at hr ⊢
  rw[List.any_cons]
  by_cases h:rd l (i:Int)=1
  ·refine⟨(i:Int),?_,?_⟩
   ·refine Ev.upW ?_
    simp only[qkw.l0,if_pos (show(i:Int) < (l.length:Int) by omega),if_pos (Int.natCast_nonneg i),if_pos (show(1:Int)=rd l (i:Int) from h.symm)]
    exact Ev.now _
   ·rw[decide_eq_true h,Bool.true_or]
    exact decide_eq_true (Int.natCast_nonneg i)
  ·refine⟨r,?_,?_⟩
   ·refine Ev.upW ?_
    simp only[qkw.l0,if_pos (show(i:Int) < (l.length:Int) by omega),if_pos (Int.natCast_nonneg i),if_neg (show ¬ (1:Int)=rd l (i:Int) from fun e=>h e.symm)]
    exact hrest
   ·rw[decide_eq_false h,Bool.false_or]
    exact hr
theorem specOne_ev (a:ByteArray) (b:List Int) (c d:List ByteArray) (l:List Int) (hl:l.length≤1048576):Ev (fun k=>qvj.f k a b c d l 1) (hasOne l):=by
 have h:=specOne_l0 l hl l.length 0 (by omega)
 rw[List.drop_zero] at h
 simp only[qvj.f]
 exact h
theorem implOne_ev (l:List Int) (hl:l.length≤1048576):Ev (fun k=>qkv.f k l 1) (hasOne l):=by
 obtain⟨r,h,hr⟩:=implOne_l0 l hl l.length 0 (by omega)
 rw[List.drop_zero] at hr
 simp only[qkv.f]
 refine Ev.bind (show Ev (fun k=>qkw.f k l 1) r from by simp only[qkw.f];exact h) ?_
 rw[← hr]
 exact Ev.now _
def secOk (b:List Int) (z:ByteArray):Bool :=
 if b.length=0 then(z.toList == ([]:List UInt8)) else if 1≤z.size∧z.size≤200 then((strOfNums (dg (bytesOf z))).toList == (strOfNums b).toList) else false
def lastOk (f:Bool) (b:List Int) (z:ByteArray):Bool:=if f=true then false else secOk b z
def restOk (e:ByteArray × List Int × List ByteArray × List ByteArray × List Int × Bool) (srv:Bool) (z:ByteArray):Bool :=
 if e.2.2.2.2.2=true then(if srv=true then(if e.2.2.1.length=0 then false else if e.2.2.2.1.length=0 then false else if hasOne e.2.2.2.2.1=true then(if z.size≤200 then secOk e.2.1 z else false) else false) else false) else false
theorem nil_iff (z:ByteArray):z.toList=([]:List UInt8) ↔ z.size=0:=by
 rw[← toList_len z]
 exact List.length_eq_zero_iff.symm
theorem secOk_big (b:List Int) (z:ByteArray) (h:¬ z.size≤200):secOk b z=false:=by
 unfold secOk
 have hz:¬ z.toList=([]:List UInt8):=fun e=>by have:=(nil_iff z).1 e;omega
 by_cases h0:b.length=0
 ·rw[if_pos h0]
  exact beq_eq_false_iff_ne.2 hz
 ·rw[if_neg h0,if_neg (fun hh=>h hh.2)]
theorem qxz (f:Bool) (l:List CliS) (y:List Int) (s g:Int) (c z:ByteArray) (p q:Bool) (a:ByteArray) (b:List Int) (d e:List ByteArray) (ks:List Int) (hz:f=false→z.size≤200) :
  Ev (fun k=>qkx.j0 k f l y s g c z p q a b d e ks) (lastOk f b z):=by
 refine Ev.upW ?_
 unfold lastOk
 simp only[qkx.j0]
 by_cases hf:f=true
 ·simp only[if_pos hf];exact Ev.now _
 simp only[if_neg hf]
 have h2:=hz (jq9.2 hf)
 unfold secOk
 by_cases h0:b.length=0
 ·simp only[if_pos h0,if_pos (show(b.length:Int)=0 by omega)];exact Ev.now _
 simp only[if_neg h0,if_neg (show ¬ (b.length:Int)=0 by omega)]
 by_cases h1:z.toList=([]:List UInt8)
 ·have:=(nil_iff z).1 h1
  simp only[if_pos h1,if_neg (show ¬ (1≤z.size∧z.size≤200) by omega)];exact Ev.now _
 have h3:¬ z.size=0:=fun e=>h1 ((nil_iff z).2 e)
 simp only[if_neg h1,if_pos (show 1≤z.size∧z.size≤200 by omega)]
 rw[show bytesOfS.f z=some (bytesOf z) from by unfold bytesOfS.f;rw[if_pos (by omega)]]
 simp only[Option.bind_some]
 refine Ev.bind (specDigest_ev (bytesOf z) (bytesOf_isBytes z) (by rw[bytesOf_length];omega)) ?_
 exact Ev.now _
theorem wx (f:Bool) (l:List CliS) (y:List Int) (s g:Int) (c z:ByteArray) (p q:Bool) (a:ByteArray) (b:List Int) (d e:List ByteArray) (ks:List Int) :
  Ev (fun k=>wz.j0 k f l y s g c z p q a b d e ks) (lastOk f b z):=by
 refine Ev.upW ?_
 unfold lastOk
 simp only[wz.j0]
 by_cases hf:f=true
 ·simp only[if_pos hf];exact Ev.now _
 simp only[if_neg hf]
 unfold secOk
 by_cases h0:b.length=0
 ·simp only[if_pos h0,if_pos (show(b.length:Int)=0 by omega)];exact Ev.now _
 simp only[if_neg h0,if_neg (show ¬ (b.length:Int)=0 by omega)]
 by_cases h1 : 1≤z.size
 ·by_cases h2:z.size≤200
  ·simp only[if_pos (show(z.size:Int) ≥ 1 by omega),if_pos (show(z.size:Int)≤200 by omega),if_pos (show 1≤z.size∧z.size≤200 from⟨h1,h2⟩)]
   rw[show bytesOfS.f z=some (bytesOf z) from by unfold bytesOfS.f;rw[if_pos (by omega)]]
   simp only[Option.bind_some,implDigest_eq (bytesOf z) (bytesOf_isBytes z) (by rw[bytesOf_length];omega),vq.f]
   exact Ev.now _
  ·simp only[if_pos (show(z.size:Int) ≥ 1 by omega),if_neg (show ¬ (z.size:Int)≤200 by omega),if_neg (show ¬ (1≤z.size∧z.size≤200) from fun h=>h2 h.2)];exact Ev.now _
 ·simp only[if_neg (show ¬ (z.size:Int) ≥ 1 by omega),if_neg (show ¬ (1≤z.size∧z.size≤200) from fun h=>h1 h.1)];exact Ev.now _
theorem last_true (b:List Int) (z:ByteArray):lastOk true b z=false:=rfl
theorem specAttack_ev (l:List CliS) (y:List Int) (s g:Int) (c z:ByteArray) (p q:Bool) (ho:okSrv l) :
  Ev (fun k=>qkx.f k l y s g c z p q) (restOk (outCl (l.find? (isCl c))) (goodServer l y s g) z):=by
 simp only[qkx.f]
 refine Ev.bind (specCl_ev l y s g c z p q ho.1) ?_
 have hk:(outCl (l.find? (isCl c))).2.2.2.2.1.length≤1048576:=by
  cases h:l.find? (isCl c) with
  | none=>exact Nat.zero_le _
  | some e=>exact(ho.2 e (List.mem_of_find?_eq_some h)).2.2.2.2
 generalize outCl (l.find? (isCl c))=e at hk ⊢
 have ht:Ev (fun k=>qkx.j0 k true l y s g c z p q e.1 e.2.1 e.2.2.1 e.2.2.2.1 e.2.2.2.2.1) false:=qxz true l y s g c z p q e.1 e.2.1 e.2.2.1 e.2.2.2.1 e.2.2.2.2.1 (fun h=>by cases h)
 unfold restOk
 by_cases h0:e.2.2.2.2.2=true
 case neg=>simp only[if_neg h0];exact ht
 simp only[if_pos h0]
 refine Ev.bind (specServer_ev l y s g ho) ?_
 by_cases h1:goodServer l y s g=true
 case neg=>simp only[if_neg h1];exact ht
 simp only[if_pos h1]
 by_cases h2:e.2.2.1.length=0
 ·simp only[if_pos h2,if_pos (show(e.2.2.1.length:Int)=0 by omega)];exact ht
 simp only[if_neg h2,if_neg (show ¬ (e.2.2.1.length:Int)=0 by omega)]
 by_cases h3:e.2.2.2.1.length=0
 ·simp only[if_pos h3,if_pos (show(e.2.2.2.1.length:Int)=0 by omega)];exact ht
 simp only[if_neg h3,if_neg (show ¬ (e.2.2.2.1.length:Int)=0 by omega)]
 refine Ev.bind (specOne_ev e.1 e.2.1 e.2.2.1 e.2.2.2.1 e.2.2.2.2.1 hk) ?_
 by_cases h4:hasOne e.2.2.2.2.1=true
 case neg=>simp only[if_neg h4];exact ht
 simp only[if_pos h4]
 by_cases h5:z.size≤200
 ·rw[if_pos h5]
  have:=qxz false l y s g c z p q e.1 e.2.1 e.2.2.1 e.2.2.2.1 e.2.2.2.2.1 (fun _=>h5)
  simp only[decide_eq_false (show ¬ (z.size:Int) > 200 by omega)]
  exact this
 ·rw[if_neg h5]
  simp only[decide_eq_true (show(z.size:Int) > 200 by omega)]
  exact ht
theorem implAttack_ev (l:List CliS) (y:List Int) (s g:Int) (c z:ByteArray) (p q:Bool) (ho:okSrv l) :
  Ev (fun k=>wz.f k l y s g c z p q) (restOk (outCl (l.find? (isCl c))) (goodServer l y s g) z):=by
 simp only[wz.f]
 refine Ev.bind (implCl_ev l y s g c z p q ho.1) ?_
 have hk:(outCl (l.find? (isCl c))).2.2.2.2.1.length≤1048576:=by
  cases h:l.find? (isCl c) with
  | none=>exact Nat.zero_le _
  | some e=>exact(ho.2 e (List.mem_of_find?_eq_some h)).2.2.2.2
 generalize outCl (l.find? (isCl c))=e at hk ⊢
 have hj:∀ f:Bool,Ev (fun k=>wz.j0 k f l y s g c z p q e.1 e.2.1 e.2.2.1 e.2.2.2.1 e.2.2.2.2.1) (lastOk f e.2.1 z):=fun f=>wx f l y s g c z p q e.1 e.2.1 e.2.2.1 e.2.2.2.1 e.2.2.2.2.1
 have ht:=hj true
 rw[last_true] at ht
 refine Ev.bind (implServer_ev l y s g ho) ?_
 unfold restOk
 by_cases h1:goodServer l y s g=true
 case neg =>
  simp only[if_neg h1]
  rw[show(if e.2.2.2.2.2=true then false else false)=false from by split <;> rfl]
  exact ht
 simp only[if_pos h1]
 by_cases h0:e.2.2.2.2.2=true
 case neg=>simp only[if_neg h0];exact ht
 simp only[if_pos h0]
 by_cases h2:e.2.2.1.length=0
 ·simp only[if_pos h2,if_pos (show(e.2.2.1.length:Int)=0 by omega)];exact ht
 simp only[if_neg h2,if_neg (show ¬ (e.2.2.1.length:Int)=0 by omega)]
 by_cases h3:e.2.2.2.1.length=0
 ·simp only[if_pos h3,if_pos (show(e.2.2.2.1.length:Int)=0 by omega)];exact ht
 simp only[if_neg h3,if_neg (show ¬ (e.2.2.2.1.length:Int)=0 by omega)]
 refine Ev.bind (implOne_ev e.2.2.2.2.1 hk) ?_
 by_cases h4:hasOne e.2.2.2.2.1=true
 ·rw[if_pos h4,h4]
  have hf:=hj (!true)
  rw[show lastOk (!true) e.2.1 z=secOk e.2.1 z from rfl] at hf
  by_cases h5:z.size≤200
  ·rw[if_pos h5];exact hf
  ·rw[if_neg h5]
   rw[secOk_big _ _ h5] at hf
   exact hf
 ·rw[if_neg h4,jq9.2 h4]
  exact ht
theorem szAttack_ev (l:List S96) (key:List Int) (s g:Int) (c z:ByteArray) (p q:Bool) (hok:∀ e ∈ l,okCl e) (hmax:l.length≤9223372036854775807) (hk:key.length≤9223372036854775807) (hc:okS c) (hz:okS z) :
  ∃ r:Int,Ev (fun k=>qzv.f k l key s g c z p q 1048576) r∧(¬ r < 0→(l.length≤1048576∧∀ e ∈ l,smCl e.f0 e.f1 e.f2 e.f3 e.f4)∧key.length≤1048576):=by
 obtain⟨r1,e1,b1,s1⟩:=szServer_ev l key s g hok hmax hk 1048576 (by omega) (by omega)
 unfold okS at hc hz
 simp only[qzv.f]
 by_cases c1:r1 < 0
 ·exact⟨-1,by refine Ev.bind e1 ?_;simp only[if_pos c1];exact Ev.now _,fun h=>by omega⟩
 have w1:wrap64 (r1 - (c.size:Int))=r1 - (c.size:Int):=w64 (by omega) (by omega)
 by_cases c2:r1 - (c.size:Int) < 0
 ·exact⟨-1,by refine Ev.bind e1 ?_;simp only[if_neg c1,w1,if_pos c2];exact Ev.now _,fun h=>by omega⟩
 have w2:wrap64 (r1 - (c.size:Int) - (z.size:Int))=r1 - (c.size:Int) - (z.size:Int):=w64 (by omega) (by omega)
 by_cases c3:r1 - (c.size:Int) - (z.size:Int) < 0
 ·exact⟨-1,by refine Ev.bind e1 ?_;simp only[if_neg c1,w1,if_neg c2,w2,if_pos c3];exact Ev.now _,fun h=>by omega⟩
 ·exact⟨r1 - (c.size:Int) - (z.size:Int),by refine Ev.bind e1 ?_;simp only[if_neg c1,w1,if_neg c2,w2,if_neg c3];exact Ev.now _,fun _=>s1 c1⟩
theorem toAttack_ev (l:List S96) (key:List Int) (s g:Int) (c z:ByteArray) (p q:Bool) (hlen:l.length≤1048576) (hs:∀ e ∈ l,smCl e.f0 e.f1 e.f2 e.f3 e.f4) (hk:key.length≤1048576):Ev (fun k=>qjv.f k l key s g c z p q) (l.map toC,key,s,g,c,z,p,q):=by
 simp only[qjv.f]
 refine Ev.bind (toServer_ev l key s g hlen hs hk) ?_
 exact Ev.now _
theorem eqAttack_refl (l:List CliS) (key:List Int) (s g:Int) (c z:ByteArray) (p q:Bool) (hlen:l.length≤1048576) (hs:∀ e ∈ l,smCl e.f0 e.f1 e.f2 e.f3 e.f4) (hk:key.length≤1048576):Ev (fun k=>qqv.f k l key s g c z p q l key s g c z p q) true:=by
 simp only[qqv.f]
 refine Ev.bind (eqServer_refl l key s g hlen hs hk) ?_
 simp only[if_true,bne_self_eq_false,if_neg (show ¬ (false=true) by decide)]
 exact Ev.now _
end Go.Proofs.Ytakocdkcfjkmdaa.Pr
namespace Go.Proofs.Ytakocdkcfjkmdaa.Pure
open Go.RowKit Go.Proofs.Ytakocdkcfjkmdaa.Read Go.Proofs.YtakocdkcfjkmdaaW.PrintWords Go.Proofs.Ytakocdkcfjkmdaa.Pr
set_option linter.unusedVariables false
set_option linter.unusedSimpArgs false
theorem FnExactGoodAttack:qqk.Pure:=by
 intro l key s g c z p q hl hk _ _ hc hz
 obtain⟨r,hr,hsmall⟩:=szAttack_ev l key s g c z p q (fun e he=>by have:=hl.2 e he;exact⟨this.1,this.2.1.1,this.2.2.1,this.2.2.2.1,this.2.2.2.2.1⟩) hl.1 hk.1 hc hz
 apply Ev.rounds
 simp only[qqk.f]
 refine Ev.bind hr ?_
 by_cases hneg:r < 0
 ·simp only[if_pos hneg];exact Ev.now _
 obtain⟨⟨hlen,hs⟩,hkl⟩:=hsmall hneg
 simp only[if_neg hneg]
 have hto:=toAttack_ev l key s g c z p q hlen hs hkl
 have hsm:∀ e ∈ l.map toC,smCl e.f0 e.f1 e.f2 e.f3 e.f4:=fun e he=>by
  obtain⟨x,hx,rfl⟩:=List.mem_map.1 he
  exact hs x hx
 have hl2:(l.map toC).length≤1048576:=by rw[List.length_map];exact hlen
 refine Ev.bind hto ?_
 refine Ev.bind (specAttack_ev _ key s g c z p q ⟨hl2,hsm⟩) ?_
 refine Ev.bind hto ?_
 refine Ev.bind (implAttack_ev _ key s g c z p q ⟨hl2,hsm⟩) ?_
 simp only[bne_self_eq_false,if_neg (show ¬ (false=true) by decide)]
 refine Ev.bind hto ?_
 refine Ev.bind (eqAttack_refl _ key s g c z p q hl2 hsm hkl) ?_
 simp only[if_true]
 exact Ev.now _
end Go.Proofs.Ytakocdkcfjkmdaa.Pure
