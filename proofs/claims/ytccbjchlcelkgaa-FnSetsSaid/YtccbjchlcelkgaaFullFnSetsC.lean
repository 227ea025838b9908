/- Printed texts, walks and plain facts that the law FnSets leans on, joined. -/
import Derived.Test.YtccbjchlcelkgaaFullFnSetsB
import Derived.WalkSpells
import Derived.Shelf.Abstract
import Derived.Shelf.SlSortCmp.InsertionK
import Derived.Deep.QuietTactic
import Derived.BigQuiet
import Derived.Laws.Cover1
import Derived.Laws.Strings
import Derived.Lib.SlicesCompact
import Derived.Lib.SliceRun
import Derived.Deep.LoopGhost
import Derived.Sort.Grow
import Derived.Shelf.SlSortCmp.NoneTotal
set_option maxHeartbeats 8000000
set_option maxRecDepth 100000
open List renaming map_toArray → jq0, map_cons → jq1, map_nil → jq2, length_drop → jq3, length_take → jq4, setIfInBounds_toArray → jq5, set_cons_zero → jq6, set_cons_succ → jq7
open Option renaming bind_eq_some_iff → jq8
open Bool renaming eq_false_iff → jq9, true → Z, false → Y
namespace Go.Proofs.Ytccbjchlcelkgaa.Pr
open Go.RowKit Go.Proofs.YtccbjchlcelkgaaW.PrintWords Go.Proofs.YtccbjchlcelkgaaW.PrintLast Go.Proofs.YtccbjchlcelkgaaW.PrintMore
attribute [local go_sem] max2_int min2_int max_two min_two max_three min_three max_four min_four
set_option linter.unusedVariables false
set_option linter.unusedSimpArgs false
mutual
def qqw.l0:Nat→List (S34)→Int→List Int→Int→Int→Option ((List (S34)))
 | 0,_,_,_,_,_=>none
 | k + 1,x4,x5,x105000,x105001,x105002=>if x5 > 0 then((qjq.f k x105000 x105001 x105002).bind fun bt108=>(if x4.length < 2932031007402 then((some (x4 ++ [(⟨bt108.1,bt108.2.1,bt108.2.2.1,bt108.2.2.2.1⟩ : S34)]:List (S34))).bind fun y114=>((qjw.f x105000 bt108.2.2.2.2.1 bt108.2.2.2.2.2 3).bind fun bt117=>(if bt117.1=true then((qjx.f x105000 bt117.2.1 bt117.2.2 (y114.length:Int)).bind fun bt120=>(if 0≤bt120.1 then(if bt120.1 < (y114.length:Int) then(if y114.length < 2932031007402 then(qqw.l0 k (y114 ++ [(⟨(vz y114 bt120.1).f0,(vz y114 bt120.1).f1,(vz y114 bt120.1).f2,(vz y114 bt120.1).f3⟩ : S34)]) (wrap64 (x5 - 1)) x105000 bt120.2.1 bt120.2.2) else(none)) else(none)) else(none))) else(qqw.l0 k y114 (wrap64 (x5 - 1)) x105000 bt117.2.1 bt117.2.2)))) else(none))) else((qjw.f x105000 x105001 x105002 20).bind fun bt127=>(if bt127.1=true then((qjx.f x105000 bt127.2.1 bt127.2.2 3).bind fun bt130=>(qqw.l1 k x4 (wrap64 (49 + bt130.1)) x105000 bt130.2.1 bt130.2.2)) else(qqw.j2 k x4 x105000 bt127.2.1 bt127.2.2)))
def qqw.j2:Nat→List (S34)→List Int→Int→Int→Option ((List (S34)))
 | 0,_,_,_,_=>none
 | k + 1,x4,x105000,x105001,x105002=>(qjw.f x105000 x105001 x105002 12).bind fun bt136=>(if bt136.1=true then(if (x4.length:Int) > 0 then(if 0 < (x4.length:Int) then((qjk.f k x105000 bt136.2.1 bt136.2.2 ((vz x4 0).f0) ((vz x4 0).f1) ((vz x4 0).f2) ((vz x4 0).f3)).bind fun bt140=>(some (x4.set (0:Int).toNat (⟨bt140.1,bt140.2.1,bt140.2.2.1,bt140.2.2.2.1⟩ : S34)))) else(none)) else(some x4)) else(some x4))
def qqw.l1:Nat→List (S34)→Int→List Int→Int→Int→Option ((List (S34)))
 | 0,_,_,_,_,_=>none
 | k + 1,x4,x6,x105000,x105001,x105002=>if (x4.length:Int) < x6 then(if x4.length < 2932031007402 then(qqw.l1 k (x4 ++ [(⟨2,wrap64 (100 - (x4.length:Int)),(⟨#[]⟩ : ByteArray),(⟨#[]⟩ : ByteArray)⟩ : S34)]) x6 x105000 x105001 x105002) else(none)) else(qqw.j2 k x4 x105000 x105001 x105002)
end
def qqw.f (k:Nat) (l0:List Int):Option ((List (S34))):=(newCur.f l0 0 0).bind fun bt101=>((qjx.f bt101.1 bt101.2.1 bt101.2.2 8).bind fun bt105=>(qqw.l0 k ([]:List (S34)) bt105.1 bt101.1 bt105.2.1 bt105.2.2))
theorem qqw.calls (k:Nat) (A0:Option Addr) (c0:Nat) (l0:List Int) (r:List (S34)) (w:World) (hr0:Kd.C (Kd.int .u8) w A0 l0.length l0) (hc0:l0.length≤c0) (h:qqw.f k l0=some r) :
  Calls Try.prog 36 #[.slice A0 l0.length c0] w fun e w'=>∃ v0_:Value,e=.returned (v0_)∧Kd.R k34 34 w' w.heap.size (fun _=>True) v0_ r∧Below w.heap.size w w':=by
 have hu82:=Try.underlying82
 have hu34:=Try.underlying34
 have HR0:=U.mk hr0
 have HC0:=U.mk hc0
 clear hr0 hc0
 have HB:=U.mk (Below.refl w.heap.size w)
 unfold qqw.f at h
 have H:=h
 clear h
 replace H:=jq8.mp H
 obtain⟨⟨t101,t102,t103⟩,A20,H⟩:=H
 try dsimp only at H
 have A2:=U.mk A20
 clear A20
 replace H:=jq8.mp H
 obtain⟨⟨t105,t106,t107⟩,A30,H⟩:=H
 try dsimp only at H
 have A3:=U.mk A30
 clear A30
 have H':=U.mk H
 clear H
 go_enter Try.func36,Try.ntmps36
 go_wp2_with (first|((with_reducible refine gate_box (t:=82) rfl ?_);refine boxGoesL_ (some 9) rfl rfl (t:=82) (cs:=#[.slice A0 l0.length c0,.int .i64 0,.int .u64 0]) (by first|(go_simp;done)|(go_simp;rfl)) ?_;(with_reducible refine(newCur.calls _ _ l0 0 0 t101 t102 t103 w _ ?side1 ?side2 ?side3 A2.out).mono ?_);(case side1=>repeat(first|(with_reducible first|exact HB.out|apply G|apply J|apply qq)|exact HB.out));(case side2=>exact HR0.out);(case side3=>exact HC0.out);rintro e w4 ⟨g104,rfl,hi,hb,hb2⟩;refine⟨_,rfl,?_⟩;replace HB:=U.mk (hb);have HI104:=U.mk (hi);(try clear hb hb2 hi))|((with_reducible refine jw (f:=54) rfl ?_);refine goesL_ (some 11) rfl rfl Try.func54 (by kernel_rfl) rfl #[.pointer (some ⟨g104,0,none⟩),.int .i64 8] rfl (by(try simp only[jq0,jq1,jq2]);first|done|rfl|(simp only[jq3,jq4];rfl)) ?_;(with_reducible refine(qjx.calls g104 t101 t102 t103 8 t105 t106 t107 w _ ?side1 ?side2 A3.out).mono ?_);(case side1=>repeat(first|(with_reducible first|exact HI104.out|apply kx.alloc|apply kx.drewN|apply kx.drew|apply kx.set_1|apply kx.set_2)|exact HI104.out));(case side2=>repeat(first|(with_reducible first|exact HB.out|apply G|apply J|apply qq|refine qk ?_ (kx.ge HI104.out))|exact HB.out));rintro e w5 ⟨rfl,hi,hb,hk⟩;refine⟨_,rfl,?_⟩;replace HB:=U.mk (hb);replace HI104:=U.mk (hi);(try clear hb hk hi)))
 go_loopg [4,5] k (fun kq v4 v5 w'=>∃ (x4_1:List (S34)) (x5_1:Int) (x105001_1:Int) (x105002_1:Int),v5=.int .i64 x5_1∧U (qqw.l0 kq x4_1 x5_1 t101 x105001_1 x105002_1=some r)∧U (kq≤k)∧U (Kd.R k34 34 w' w.heap.size (fun _=>True) v4 x4_1)∧U (kx w w' g104 t101 x105001_1 x105002_1)∧U (Below w.heap.size w w'))
 case atStart=>exact⟨(([]:List (S34))),(t105),(t106),(t107),(by first|rfl|(simp;done)|(simp[*];done)),H',⟨Nat.le_refl _⟩,⟨by first|exact Kd.R_nil _ _ _ _ _|exact Kd.N_nil _ _ _ _ _|exact Kd.V_nil _ _ _ _ _|exact Kd.Q_nil _ _ _ _ _|exact Kd.S_nil _ _ _ _ _⟩,⟨by repeat(first|(with_reducible first|exact HI104.out|apply kx.alloc|apply kx.drewN|apply kx.drew|apply kx.set_1|apply kx.set_2)|exact HI104.out)⟩,⟨by repeat(first|(with_reducible first|exact HB.out|apply G|apply J|apply qq|refine qk ?_ (kx.ge HI104.out))|exact HB.out)⟩⟩
 case round =>
  clear H'
  try clear c2
  try clear p2
  try clear c3
  try clear c5
  obtain⟨x4_1,x5_1,x105001_1,x105002_1,rfl,HA,HK1,HO_4,HI104,HB⟩:=hrel
  cases gk with
  | zero=>exact absurd HA.out (by simp[qqw.l0])
  | succ k1 =>
   have H:=HA.out
   clear HA
   simp only[qqw.l0] at H
   by_cases c6:x5_1 > 0
   ·rw[if_pos c6] at H
    have c6b0:decide (0 < x5_1)=true:=decide_eq_true c6
    clear c6
    replace H:=jq8.mp H
    obtain⟨⟨t108,t109,t110,t111,t112,t113⟩,A70,H⟩:=H
    try dsimp only at H
    have A7:=U.mk A70
    clear A70
    by_cases c8:x4_1.length < 2932031007402
    ·rw[if_pos c8] at H
     have LMc8:=U.mk c8
     clear c8
     obtain⟨y114,hy114⟩ : ∃ y_:List (S34),y_=(x4_1 ++ [(⟨t108,t109,t110,t111⟩ : S34)]):=⟨_,rfl⟩
     replace H:((qjw.f t101 t112 t113 3).bind fun bt117=>(if bt117.1=true then((qjx.f t101 bt117.2.1 bt117.2.2 (y114.length:Int)).bind fun bt120=>(if 0≤bt120.1 then(if bt120.1 < (y114.length:Int) then(if y114.length < 2932031007402 then(qqw.l0 k1 (y114 ++ [(⟨(vz y114 bt120.1).f0,(vz y114 bt120.1).f1,(vz y114 bt120.1).f2,(vz y114 bt120.1).f3⟩ : S34)]) (wrap64 (x5_1 - 1)) t101 bt120.2.1 bt120.2.2) else(none)) else(none)) else(none))) else(qqw.l0 k1 y114 (wrap64 (x5_1 - 1)) t101 bt117.2.1 bt117.2.2)))=some r:=by first|(rw[hy114];with_reducible exact H)|(have H2_:=(Option.bind_some _ _).symm.trans H;rw[hy114];with_reducible exact H2_)|(have H2_:=(Option.bind_some _ _).symm.trans H;with_reducible exact H2_)|with_reducible exact H|(rw[hy114];exact H)|exact H
     have Ny114:=U.mk hy114
     clear hy114
     replace H:=jq8.mp H
     obtain⟨⟨t117,t118,t119⟩,A90,H⟩:=H
     try dsimp only at H
     have A9:=U.mk A90
     clear A90
     by_cases c10:t117=true
     ·subst c10
      have H1:((qjx.f t101 t118 t119 (y114.length:Int)).bind fun bt120=>(if 0≤bt120.1 then(if bt120.1 < (y114.length:Int) then(if y114.length < 2932031007402 then(qqw.l0 k1 (y114 ++ [(⟨(vz y114 bt120.1).f0,(vz y114 bt120.1).f1,(vz y114 bt120.1).f2,(vz y114 bt120.1).f3⟩ : S34)]) (wrap64 (x5_1 - 1)) t101 bt120.2.1 bt120.2.2) else(none)) else(none)) else(none)))=some r:=by rw[if_pos rfl] at H;exact H
      clear H
      have H:=H1
      clear H1
      replace H:=jq8.mp H
      obtain⟨⟨t120,t121,t122⟩,A110,H⟩:=H
      try dsimp only at H
      have A11:=U.mk A110
      clear A110
      by_cases c12 : 0≤t120
      ·rw[if_pos c12] at H
       have c12b0:decide (0≤t120)=true:=decide_eq_true c12
       clear c12
       by_cases c13:t120 < (y114.length:Int)
       ·rw[if_pos c13] at H
        have c13b0:decide (t120 < (y114.length:Int))=true:=decide_eq_true c13
        clear c13
        by_cases c14:y114.length < 2932031007402
        ·rw[if_pos c14] at H
         have LMc14:=U.mk c14
         clear c14
         obtain⟨y124,hy124⟩ : ∃ y_:List (S34),y_=(y114 ++ [(⟨(vz y114 t120).f0,(vz y114 t120).f1,(vz y114 t120).f2,(vz y114 t120).f3⟩ : S34)]):=⟨_,rfl⟩
         replace H:(qqw.l0 k1 y124 (wrap64 (x5_1 - 1)) t101 t121 t122)=some r:=by first|(rw[hy124];with_reducible exact H)|(have H2_:=(Option.bind_some _ _).symm.trans H;rw[hy124];with_reducible exact H2_)|(have H2_:=(Option.bind_some _ _).symm.trans H;with_reducible exact H2_)|with_reducible exact H|(rw[hy124];exact H)|exact H
         have Ny124:=U.mk hy124
         clear hy124
         have H':=U.mk H
         clear H
         go_wp2_with (first|((with_reducible refine jw (f:=69) rfl ?_);refine goesL_ (some 18) rfl rfl Try.func69 (by kernel_rfl) rfl #[.pointer (some ⟨g104,0,none⟩)] rfl (by(try simp only[jq0,jq1,jq2]);first|done|rfl|(simp only[jq3,jq4];rfl)) ?_;(with_reducible refine(qjq.calls k1 g104 t101 x105001_1 x105002_1 t108 t109 t110 t111 t112 t113 w _ ?side1 ?side2 A7.out).mono ?_);(case side1=>repeat(first|(with_reducible first|exact HI104.out|apply kx.alloc|apply kx.drewN|apply kx.drew|apply kx.set_1|apply kx.set_2)|exact HI104.out));(case side2=>repeat(first|(with_reducible first|exact HB.out|apply G|apply J|apply qq|refine qk ?_ (kx.ge HI104.out))|exact HB.out));rintro e w15 ⟨rfl,hi,hb,hk⟩;refine⟨_,rfl,?_⟩;replace HO_4:=U.mk (Kd.R_mono (Kd.R_keep (kx.apart (show kx w _ g104 t101 x105001_1 x105002_1 from by repeat(first|(with_reducible first|exact HI104.out|apply kx.alloc|apply kx.drewN|apply kx.drew|apply kx.set_1|apply kx.set_2)|exact HI104.out)) (by solve_by_elim only[HO_4.out,Kd.zv,Kd.zk,Kd.zw]) (by decide)) hk (fun _ h=>h.2)) (fun _ h=>h.1));replace HB:=U.mk (hb);replace HI104:=U.mk (hi);(try clear hb hk hi))|((with_reducible refine gate_builtin (b:=.append) (xs:=#[.tmp 16,.tmp 19]) rfl ?_);(try (refine gate_guard (by rfl) ?_;dsimp only));at_builtin;refine Kd.R_append k34 (w0:=w) w.heap.size rfl (.tmp 16) (.tmp 19) 54 34 (.agg #[(.int .i64 0),(.int .i64 0),(.string ⟨#[]⟩),(.string ⟨#[]⟩)]) 48 rfl Try.underlying54 info34 rfl (by decide) (by omega) u4 x4_1 (⟨t108,t109,t110,t111⟩ : S34) [.int .i64 t108,.int .i64 t109,.string t110,.string t111] (fun _=>True) (fun _=>False) rfl rfl ?aP (fun _ hk=>hk.elim) ?aF ?aO ?aB ?aS ?aL ?_;(case aP=>exact k34_mkM _ _ _ (⟨t108,t109,t110,t111⟩ : S34));(case aB=>exact(by solve_by_elim (maxDepth:=20) only[HB.out,G,J,qq,qk,(kx.ge HI104.out)]));(case aF=>exact(fun _ _=>trivial));(case aO=>exact(by solve_by_elim only[HO_4.out,Kd.zv,Kd.zk,Kd.zw]));(case aS=>exact(zj (by solve_by_elim (maxDepth:=20) only[HB.out,G,J,qq,qk,(kx.ge HI104.out)])));(case aL=>have:=LMc8.out;omega);intro v115 w16 ho hb hg hat;rw[← Ny114.out] at ho;replace HI104:=U.mk (kx.grown (by solve_by_elim (maxDepth:=20) only[HI104.out,kx.alloc,kx.drewN,kx.drew,kx.set_1,kx.set_2]) hg (kx.own_ne HI104.out HO_4.out (by decide)));replace HB:=U.mk (hb);have HO116:=U.mk (ho);clear HO_4;clear ho hb hg hat)|((with_reducible refine jw (f:=68) rfl ?_);refine goesL_ (some 22) rfl rfl Try.func68 (by kernel_rfl) rfl #[.pointer (some ⟨g104,0,none⟩),.int .i64 3] rfl (by(try simp only[jq0,jq1,jq2]);first|done|rfl|(simp only[jq3,jq4];rfl)) ?_;(with_reducible refine(qjw.calls g104 t101 t112 t113 3 true t118 t119 w _ ?side1 ?side2 A9.out).mono ?_);(case side1=>repeat(first|(with_reducible first|exact HI104.out|apply kx.alloc|apply kx.drewN|apply kx.drew|apply kx.set_1|apply kx.set_2)|exact HI104.out));(case side2=>repeat(first|(with_reducible first|exact HB.out|apply G|apply J|apply qq|refine qk ?_ (kx.ge HI104.out))|exact HB.out));rintro e w17 ⟨rfl,hi,hb,hk⟩;refine⟨_,rfl,?_⟩;replace HO116:=U.mk (Kd.R_mono (Kd.R_keep (kx.apart (show kx w _ g104 t101 t112 t113 from by repeat(first|(with_reducible first|exact HI104.out|apply kx.alloc|apply kx.drewN|apply kx.drew|apply kx.set_1|apply kx.set_2)|exact HI104.out)) (by solve_by_elim only[HO116.out,Kd.zv,Kd.zk,Kd.zw]) (by decide)) hk (fun _ h=>h.2)) (fun _ h=>h.1));replace HB:=U.mk (hb);replace HI104:=U.mk (hi);(try clear hb hk hi);obtain⟨Ao18,co18,eo18⟩:=Kd.R_slice HO116.out;subst eo18)|((with_reducible refine jw (f:=54) rfl ?_);refine goesL_ (some 28) rfl rfl Try.func54 (by kernel_rfl) rfl #[.pointer (some ⟨g104,0,none⟩),.int .i64 (y114.length:Int)] rfl (by(try simp only[jq0,jq1,jq2]);first|done|rfl|(simp only[jq3,jq4];rfl)) ?_;(with_reducible refine(qjx.calls g104 t101 t118 t119 (y114.length:Int) t120 t121 t122 w _ ?side1 ?side2 A11.out).mono ?_);(case side1=>repeat(first|(with_reducible first|exact HI104.out|apply kx.alloc|apply kx.drewN|apply kx.drew|apply kx.set_1|apply kx.set_2)|exact HI104.out));(case side2=>repeat(first|(with_reducible first|exact HB.out|apply G|apply J|apply qq|refine qk ?_ (kx.ge HI104.out))|exact HB.out));rintro e w19 ⟨rfl,hi,hb,hk⟩;refine⟨_,rfl,?_⟩;replace HO116:=U.mk (Kd.R_mono (Kd.R_keep (kx.apart (show kx w _ g104 t101 t118 t119 from by repeat(first|(with_reducible first|exact HI104.out|apply kx.alloc|apply kx.drewN|apply kx.drew|apply kx.set_1|apply kx.set_2)|exact HI104.out)) (by solve_by_elim only[HO116.out,Kd.zv,Kd.zk,Kd.zw]) (by decide)) hk (fun _ h=>h.2)) (fun _ h=>h.1));replace HB:=U.mk (hb);replace HI104:=U.mk (hi);(try clear hb hk hi);have p123 : 0≤(t120:Int):=of_decide_eq_true (by assumption);have q123:t120 < (y114.length:Int):=of_decide_eq_true (by assumption);obtain⟨ad123,e123,hx123_0,hx123_1,hx123_2,hx123_3⟩:=at_T34 (Kd.R_reads' HO116.out).2.2 t120 p123 q123;cases e123;replace p123:=eq_true p123;replace q123:=eq_true q123)|((with_reducible refine gate_builtin (b:=.append) (xs:=#[.tmp 23,.tmp 31]) rfl ?_);(try (refine gate_guard (by rfl) ?_;dsimp only));at_builtin;refine Kd.R_append k34 (w0:=w) w.heap.size rfl (.tmp 23) (.tmp 31) 54 34 (.agg #[(.int .i64 0),(.int .i64 0),(.string ⟨#[]⟩),(.string ⟨#[]⟩)]) 48 rfl Try.underlying54 info34 rfl (by decide) (by omega) (.slice (some ad123) y114.length co18) y114 (⟨(vz y114 t120).f0,(vz y114 t120).f1,(vz y114 t120).f2,(vz y114 t120).f3⟩ : S34) [.int .i64 ((vz y114 t120).f0),.int .i64 ((vz y114 t120).f1),.string ((vz y114 t120).f2),.string ((vz y114 t120).f3)] (fun _=>True) (fun _=>False) rfl rfl ?aP (fun _ hk=>hk.elim) ?aF ?aO ?aB ?aS ?aL ?_;(case aP=>exact k34_mkM _ _ _ (⟨(vz y114 t120).f0,(vz y114 t120).f1,(vz y114 t120).f2,(vz y114 t120).f3⟩ : S34));(case aB=>exact(by solve_by_elim (maxDepth:=20) only[HB.out,G,J,qq,qk,(kx.ge HI104.out)]));(case aF=>exact(fun _ _=>trivial));(case aO=>exact(by solve_by_elim only[HO116.out,Kd.zv,Kd.zk,Kd.zw]));(case aS=>exact(zj (by solve_by_elim (maxDepth:=20) only[HB.out,G,J,qq,qk,(kx.ge HI104.out)])));(case aL=>have:=LMc14.out;omega);intro v125 w20 ho hb hg hat;rw[← Ny124.out] at ho;replace HI104:=U.mk (kx.grown (by solve_by_elim (maxDepth:=20) only[HI104.out,kx.alloc,kx.drewN,kx.drew,kx.set_1,kx.set_2]) hg (kx.own_ne HI104.out HO116.out (by decide)));replace HB:=U.mk (hb);have HO126:=U.mk (ho);clear HO116;clear ho hb hg hat))
         go_roundg k1
         case measure=>have:=HK1.out;omega
         case rel=>exact⟨(y124),(wrap64 (x5_1 - 1)),(t121),(t122),(by first|rfl|(simp;done)|(simp[*];done)),H',⟨by have:=HK1.out;omega⟩,⟨by(with_reducible repeat(first|apply Kd.zv|apply Kd.zk|apply Kd.zw));exact HO126.out⟩,⟨by repeat(first|(with_reducible first|exact HI104.out|apply kx.alloc|apply kx.drewN|apply kx.drew|apply kx.set_1|apply kx.set_2)|exact HI104.out)⟩,⟨by repeat(first|(with_reducible first|exact HB.out|apply G|apply J|apply qq|refine qk ?_ (kx.ge HI104.out))|exact HB.out)⟩⟩
        ·rw[if_neg c14] at H
         exact absurd H (by simp)
       ·rw[if_neg c13] at H
        exact absurd H (by simp)
      ·rw[if_neg c12] at H
       exact absurd H (by simp)
     ·replace c10:=jq9.mpr c10
      subst c10
      have H1:(qqw.l0 k1 y114 (wrap64 (x5_1 - 1)) t101 t118 t119)=some r:=by rw[if_neg (show ¬ (false=true) by decide)] at H;exact H
      clear H
      have H:=H1
      clear H1
      have H':=U.mk H
      clear H
      go_wp2_with (first|((with_reducible refine jw (f:=69) rfl ?_);refine goesL_ (some 18) rfl rfl Try.func69 (by kernel_rfl) rfl #[.pointer (some ⟨g104,0,none⟩)] rfl (by(try simp only[jq0,jq1,jq2]);first|done|rfl|(simp only[jq3,jq4];rfl)) ?_;(with_reducible refine(qjq.calls k1 g104 t101 x105001_1 x105002_1 t108 t109 t110 t111 t112 t113 w _ ?side1 ?side2 A7.out).mono ?_);(case side1=>repeat(first|(with_reducible first|exact HI104.out|apply kx.alloc|apply kx.drewN|apply kx.drew|apply kx.set_1|apply kx.set_2)|exact HI104.out));(case side2=>repeat(first|(with_reducible first|exact HB.out|apply G|apply J|apply qq|refine qk ?_ (kx.ge HI104.out))|exact HB.out));rintro e w21 ⟨rfl,hi,hb,hk⟩;refine⟨_,rfl,?_⟩;replace HO_4:=U.mk (Kd.R_mono (Kd.R_keep (kx.apart (show kx w _ g104 t101 x105001_1 x105002_1 from by repeat(first|(with_reducible first|exact HI104.out|apply kx.alloc|apply kx.drewN|apply kx.drew|apply kx.set_1|apply kx.set_2)|exact HI104.out)) (by solve_by_elim only[HO_4.out,Kd.zv,Kd.zk,Kd.zw]) (by decide)) hk (fun _ h=>h.2)) (fun _ h=>h.1));replace HB:=U.mk (hb);replace HI104:=U.mk (hi);(try clear hb hk hi))|((with_reducible refine gate_builtin (b:=.append) (xs:=#[.tmp 16,.tmp 19]) rfl ?_);(try (refine gate_guard (by rfl) ?_;dsimp only));at_builtin;refine Kd.R_append k34 (w0:=w) w.heap.size rfl (.tmp 16) (.tmp 19) 54 34 (.agg #[(.int .i64 0),(.int .i64 0),(.string ⟨#[]⟩),(.string ⟨#[]⟩)]) 48 rfl Try.underlying54 info34 rfl (by decide) (by omega) u4 x4_1 (⟨t108,t109,t110,t111⟩ : S34) [.int .i64 t108,.int .i64 t109,.string t110,.string t111] (fun _=>True) (fun _=>False) rfl rfl ?aP (fun _ hk=>hk.elim) ?aF ?aO ?aB ?aS ?aL ?_;(case aP=>exact k34_mkM _ _ _ (⟨t108,t109,t110,t111⟩ : S34));(case aB=>exact(by solve_by_elim (maxDepth:=20) only[HB.out,G,J,qq,qk,(kx.ge HI104.out)]));(case aF=>exact(fun _ _=>trivial));(case aO=>exact(by solve_by_elim only[HO_4.out,Kd.zv,Kd.zk,Kd.zw]));(case aS=>exact(zj (by solve_by_elim (maxDepth:=20) only[HB.out,G,J,qq,qk,(kx.ge HI104.out)])));(case aL=>have:=LMc8.out;omega);intro v115 w22 ho hb hg hat;rw[← Ny114.out] at ho;replace HI104:=U.mk (kx.grown (by solve_by_elim (maxDepth:=20) only[HI104.out,kx.alloc,kx.drewN,kx.drew,kx.set_1,kx.set_2]) hg (kx.own_ne HI104.out HO_4.out (by decide)));replace HB:=U.mk (hb);have HO116:=U.mk (ho);clear HO_4;clear ho hb hg hat)|((with_reducible refine jw (f:=68) rfl ?_);refine goesL_ (some 22) rfl rfl Try.func68 (by kernel_rfl) rfl #[.pointer (some ⟨g104,0,none⟩),.int .i64 3] rfl (by(try simp only[jq0,jq1,jq2]);first|done|rfl|(simp only[jq3,jq4];rfl)) ?_;(with_reducible refine(qjw.calls g104 t101 t112 t113 3 false t118 t119 w _ ?side1 ?side2 A9.out).mono ?_);(case side1=>repeat(first|(with_reducible first|exact HI104.out|apply kx.alloc|apply kx.drewN|apply kx.drew|apply kx.set_1|apply kx.set_2)|exact HI104.out));(case side2=>repeat(first|(with_reducible first|exact HB.out|apply G|apply J|apply qq|refine qk ?_ (kx.ge HI104.out))|exact HB.out));rintro e w23 ⟨rfl,hi,hb,hk⟩;refine⟨_,rfl,?_⟩;replace HO116:=U.mk (Kd.R_mono (Kd.R_keep (kx.apart (show kx w _ g104 t101 t112 t113 from by repeat(first|(with_reducible first|exact HI104.out|apply kx.alloc|apply kx.drewN|apply kx.drew|apply kx.set_1|apply kx.set_2)|exact HI104.out)) (by solve_by_elim only[HO116.out,Kd.zv,Kd.zk,Kd.zw]) (by decide)) hk (fun _ h=>h.2)) (fun _ h=>h.1));replace HB:=U.mk (hb);replace HI104:=U.mk (hi);(try clear hb hk hi)))
      go_roundg k1
      case measure=>have:=HK1.out;omega
      case rel=>exact⟨(y114),(wrap64 (x5_1 - 1)),(t118),(t119),(by first|rfl|(simp;done)|(simp[*];done)),H',⟨by have:=HK1.out;omega⟩,⟨by(with_reducible repeat(first|apply Kd.zv|apply Kd.zk|apply Kd.zw));exact HO116.out⟩,⟨by repeat(first|(with_reducible first|exact HI104.out|apply kx.alloc|apply kx.drewN|apply kx.drew|apply kx.set_1|apply kx.set_2)|exact HI104.out)⟩,⟨by repeat(first|(with_reducible first|exact HB.out|apply G|apply J|apply qq|refine qk ?_ (kx.ge HI104.out))|exact HB.out)⟩⟩
    ·rw[if_neg c8] at H
     exact absurd H (by simp)
   ·rw[if_neg c6] at H
    have c6b0:decide (0 < x5_1)=false:=decide_eq_false c6
    clear c6
    replace H:=jq8.mp H
    obtain⟨⟨t127,t128,t129⟩,A240,H⟩:=H
    try dsimp only at H
    have A24:=U.mk A240
    clear A240
    have HC25:=U.mk H
    clear H
    go_upto_if 34 with (first|((with_reducible refine jw (f:=68) rfl ?_);refine goesL_ (some 34) rfl rfl Try.func68 (by kernel_rfl) rfl #[.pointer (some ⟨g104,0,none⟩),.int .i64 20] rfl (by(try simp only[jq0,jq1,jq2]);first|done|rfl|(simp only[jq3,jq4];rfl)) ?_;(with_reducible refine(qjw.calls g104 t101 x105001_1 x105002_1 20 t127 t128 t129 w _ ?side1 ?side2 A24.out).mono ?_);(case side1=>repeat(first|(with_reducible first|exact HI104.out|apply kx.alloc|apply kx.drewN|apply kx.drew|apply kx.set_1|apply kx.set_2)|exact HI104.out));(case side2=>repeat(first|(with_reducible first|exact HB.out|apply G|apply J|apply qq|refine qk ?_ (kx.ge HI104.out))|exact HB.out));rintro e w26 ⟨rfl,hi,hb,hk⟩;refine⟨_,rfl,?_⟩;replace HO_4:=U.mk (Kd.R_mono (Kd.R_keep (kx.apart (show kx w _ g104 t101 x105001_1 x105002_1 from by repeat(first|(with_reducible first|exact HI104.out|apply kx.alloc|apply kx.drewN|apply kx.drew|apply kx.set_1|apply kx.set_2)|exact HI104.out)) (by solve_by_elim only[HO_4.out,Kd.zv,Kd.zk,Kd.zw]) (by decide)) hk (fun _ h=>h.2)) (fun _ h=>h.1));replace HB:=U.mk (hb);replace HI104:=U.mk (hi);(try clear hb hk hi)))
    (try simp only[Act.put,jq5,jq6,jq7])
    go_cut [4] (fun v4 wc=>∃ (kq:Nat) (x4_24:List (S34)) (x105001_24:Int) (x105002_24:Int),U (qqw.j2 kq x4_24 t101 x105001_24 x105002_24=some r)∧U (kq≤k1)∧U (Kd.R k34 34 wc w.heap.size (fun _=>True) v4 x4_24)∧U (kx w wc g104 t101 x105001_24 x105002_24)∧U (Below w.heap.size w wc))
    case first =>
     have H:=HC25.out
     clear HC25
     by_cases c27:t127=true
     ·subst c27
      have H1:((qjx.f t101 t128 t129 3).bind fun bt130=>(qqw.l1 k1 x4_1 (wrap64 (49 + bt130.1)) t101 bt130.2.1 bt130.2.2))=some r:=by rw[if_pos rfl] at H;exact H
      clear H
      have H:=H1
      clear H1
      replace H:=jq8.mp H
      obtain⟨⟨t130,t131,t132⟩,A280,H⟩:=H
      try dsimp only at H
      have A28:=U.mk A280
      clear A280
      have H':=U.mk H
      clear H
      go_wp2_with (first|((with_reducible refine jw (f:=54) rfl ?_);refine goesL_ (some 36) rfl rfl Try.func54 (by kernel_rfl) rfl #[.pointer (some ⟨g104,0,none⟩),.int .i64 3] rfl (by(try simp only[jq0,jq1,jq2]);first|done|rfl|(simp only[jq3,jq4];rfl)) ?_;(with_reducible refine(qjx.calls g104 t101 t128 t129 3 t130 t131 t132 w _ ?side1 ?side2 A28.out).mono ?_);(case side1=>repeat(first|(with_reducible first|exact HI104.out|apply kx.alloc|apply kx.drewN|apply kx.drew|apply kx.set_1|apply kx.set_2)|exact HI104.out));(case side2=>repeat(first|(with_reducible first|exact HB.out|apply G|apply J|apply qq|refine qk ?_ (kx.ge HI104.out))|exact HB.out));rintro e w29 ⟨rfl,hi,hb,hk⟩;refine⟨_,rfl,?_⟩;replace HO_4:=U.mk (Kd.R_mono (Kd.R_keep (kx.apart (show kx w _ g104 t101 t128 t129 from by repeat(first|(with_reducible first|exact HI104.out|apply kx.alloc|apply kx.drewN|apply kx.drew|apply kx.set_1|apply kx.set_2)|exact HI104.out)) (by solve_by_elim only[HO_4.out,Kd.zv,Kd.zk,Kd.zw]) (by decide)) hk (fun _ h=>h.2)) (fun _ h=>h.1));replace HB:=U.mk (hb);replace HI104:=U.mk (hi);(try clear hb hk hi)))
      go_loopg [4] k1 (fun kq v4 w'=>∃ (x4_2:List (S34)),U (qqw.l1 kq x4_2 (wrap64 (49 + t130)) t101 t131 t132=some r)∧U (kq≤k1)∧U (Kd.R k34 34 w' w.heap.size (fun _=>True) v4 x4_2)∧U (kx w w' g104 t101 t131 t132)∧U (Below w.heap.size w w'))
      case atStart=>exact⟨(x4_1),H',⟨Nat.le_refl _⟩,⟨by(with_reducible repeat(first|apply Kd.zv|apply Kd.zk|apply Kd.zw));exact HO_4.out⟩,⟨by repeat(first|(with_reducible first|exact HI104.out|apply kx.alloc|apply kx.drewN|apply kx.drew|apply kx.set_1|apply kx.set_2)|exact HI104.out)⟩,⟨by repeat(first|(with_reducible first|exact HB.out|apply G|apply J|apply qq|refine qk ?_ (kx.ge HI104.out))|exact HB.out)⟩⟩
      case round =>
       clear H'
       try clear c1
       try clear p1
       try clear q1
       try clear hx1
       try clear c2
       try clear p2
       try clear c3
       try clear c5
       try clear c6
       try clear c6b0
       try clear p6
       try clear c8
       try clear c10
       try clear c12
       try clear c12b0
       try clear p12
       try clear q12
       try clear hx12
       try clear c13
       try clear c13b0
       try clear c14
       try clear c22
       try clear c27
       try clear hx123_0
       try clear hx123_1
       try clear hx123_2
       try clear hx123_3
       try clear p123
       try clear p2
       try clear q123
       obtain⟨x4_2,HA,HK2,HO_4,HI104,HB⟩:=hrel
       cases gk with
       | zero=>exact absurd HA.out (by simp[qqw.l1])
       | succ k2 =>
        have H:=HA.out
        clear HA
        simp only[qqw.l1] at H
        by_cases c30:(x4_2.length:Int) < (wrap64 (49 + t130))
        ·rw[if_pos c30] at H
         have c30b0:decide ((x4_2.length:Int) < (wrap64 (49 + t130)))=true:=decide_eq_true c30
         clear c30
         (first|rw[c30b0]|(simp only[i64_w,i32_w];rw[c30b0])|skip)
         by_cases c31:x4_2.length < 2932031007402
         ·rw[if_pos c31] at H
          have LMc31:=U.mk c31
          clear c31
          obtain⟨y133,hy133⟩ : ∃ y_:List (S34),y_=(x4_2 ++ [(⟨2,wrap64 (100 - (x4_2.length:Int)),(⟨#[]⟩ : ByteArray),(⟨#[]⟩ : ByteArray)⟩ : S34)]):=⟨_,rfl⟩
          replace H:(qqw.l1 k2 y133 (wrap64 (49 + t130)) t101 t131 t132)=some r:=by first|(rw[hy133];with_reducible exact H)|(have H2_:=(Option.bind_some _ _).symm.trans H;rw[hy133];with_reducible exact H2_)|(have H2_:=(Option.bind_some _ _).symm.trans H;with_reducible exact H2_)|with_reducible exact H|(rw[hy133];exact H)|exact H
          have Ny133:=U.mk hy133
          clear hy133
          have H':=U.mk H
          clear H
          obtain⟨Ao32,co32,eo32⟩:=Kd.R_slice HO_4.out
          subst eo32
          go_wp2_with (first|((with_reducible refine gate_builtin (b:=.append) (xs:=#[.tmp 42,.tmp 47]) rfl ?_);(try (refine gate_guard (by rfl) ?_;dsimp only));at_builtin;refine Kd.R_append k34 (w0:=w) w.heap.size rfl (.tmp 42) (.tmp 47) 54 34 (.agg #[(.int .i64 0),(.int .i64 0),(.string ⟨#[]⟩),(.string ⟨#[]⟩)]) 48 rfl Try.underlying54 info34 rfl (by decide) (by omega) (.slice Ao32 x4_2.length co32) x4_2 (⟨2,wrap64 (100 - (x4_2.length:Int)),(⟨#[]⟩ : ByteArray),(⟨#[]⟩ : ByteArray)⟩ : S34) [.int .i64 2,.int .i64 (wrap64 (100 - (x4_2.length:Int))),.string (⟨#[]⟩ : ByteArray),.string (⟨#[]⟩ : ByteArray)] (fun _=>True) (fun _=>False) rfl rfl ?aP (fun _ hk=>hk.elim) ?aF ?aO ?aB ?aS ?aL ?_;(case aP=>exact k34_mkM _ _ _ (⟨2,wrap64 (100 - (x4_2.length:Int)),(⟨#[]⟩ : ByteArray),(⟨#[]⟩ : ByteArray)⟩ : S34));(case aB=>exact(by solve_by_elim (maxDepth:=20) only[HB.out,G,J,qq,qk,(kx.ge HI104.out)]));(case aF=>exact(fun _ _=>trivial));(case aO=>exact(by solve_by_elim only[HO_4.out,Kd.zv,Kd.zk,Kd.zw]));(case aS=>exact(zj (by solve_by_elim (maxDepth:=20) only[HB.out,G,J,qq,qk,(kx.ge HI104.out)])));(case aL=>have:=LMc31.out;omega);intro v134 w33 ho hb hg hat;rw[← Ny133.out] at ho;replace HI104:=U.mk (kx.grown (by solve_by_elim (maxDepth:=20) only[HI104.out,kx.alloc,kx.drewN,kx.drew,kx.set_1,kx.set_2]) hg (kx.own_ne HI104.out HO_4.out (by decide)));replace HB:=U.mk (hb);have HO135:=U.mk (ho);clear HO_4;clear ho hb hg hat))
          go_roundg k2
          case measure=>have:=HK1.out;have:=HK2.out;omega
          case rel=>exact⟨(y133),H',⟨by have:=HK1.out;have:=HK2.out;omega⟩,⟨by(with_reducible repeat(first|apply Kd.zv|apply Kd.zk|apply Kd.zw));exact HO135.out⟩,⟨by repeat(first|(with_reducible first|exact HI104.out|apply kx.alloc|apply kx.drewN|apply kx.drew|apply kx.set_1|apply kx.set_2)|exact HI104.out)⟩,⟨by repeat(first|(with_reducible first|exact HB.out|apply G|apply J|apply qq|refine qk ?_ (kx.ge HI104.out))|exact HB.out)⟩⟩
         ·rw[if_neg c31] at H
          exact absurd H (by simp)
        ·rw[if_neg c30] at H
         have c30b0:decide ((x4_2.length:Int) < (wrap64 (49 + t130)))=false:=decide_eq_false c30
         clear c30
         (first|rw[c30b0]|(simp only[i64_w,i32_w];rw[c30b0])|skip)
         have H':=U.mk H
         clear H
         obtain⟨Ao34,co34,eo34⟩:=Kd.R_slice HO_4.out
         subst eo34
         go_wp2
         go_meet
         case rel=>exact⟨_,(x4_2),(t131),(t132),H',⟨by have:=HK1.out;have:=HK2.out;first|omega|exact Nat.le_refl _⟩,⟨by(with_reducible repeat(first|apply Kd.zv|apply Kd.zk|apply Kd.zw));exact HO_4.out⟩,⟨by repeat(first|(with_reducible first|exact HI104.out|apply kx.alloc|apply kx.drewN|apply kx.drew|apply kx.set_1|apply kx.set_2)|exact HI104.out)⟩,⟨by repeat(first|(with_reducible first|exact HB.out|apply G|apply J|apply qq|refine qk ?_ (kx.ge HI104.out))|exact HB.out)⟩⟩
     ·replace c27:=jq9.mpr c27
      subst c27
      have H1:(qqw.j2 k1 x4_1 t101 t128 t129)=some r:=by rw[if_neg (show ¬ (false=true) by decide)] at H;exact H
      clear H
      have H:=H1
      clear H1
      have H':=U.mk H
      clear H
      go_wp2
      go_meet
      case rel=>exact⟨_,(x4_1),(t128),(t129),H',⟨by have:=HK1.out;first|omega|exact Nat.le_refl _⟩,⟨by(with_reducible repeat(first|apply Kd.zv|apply Kd.zk|apply Kd.zw));exact HO_4.out⟩,⟨by repeat(first|(with_reducible first|exact HI104.out|apply kx.alloc|apply kx.drewN|apply kx.drew|apply kx.set_1|apply kx.set_2)|exact HI104.out)⟩,⟨by repeat(first|(with_reducible first|exact HB.out|apply G|apply J|apply qq|refine qk ?_ (kx.ge HI104.out))|exact HB.out)⟩⟩
    case rest =>
     clear HC25
     try clear c1
     try clear p1
     try clear q1
     try clear hx1
     try clear c2
     try clear p2
     try clear c3
     try clear c5
     try clear c6
     try clear c6b0
     try clear p6
     try clear c8
     try clear c10
     try clear c12
     try clear c12b0
     try clear p12
     try clear q12
     try clear hx12
     try clear c13
     try clear c13b0
     try clear c14
     try clear c22
     try clear c27
     try clear c30
     try clear c30b0
     try clear c31
     try clear hx123_0
     try clear hx123_1
     try clear hx123_2
     try clear hx123_3
     try clear p1
     try clear p12
     try clear p123
     try clear p2
     try clear p6
     try clear q1
     try clear q12
     try clear q123
     obtain⟨kq,x4_24,x105001_24,x105002_24,HA,HJ24,HO_4,HI104,HB⟩:=hcut
     cases kq with
     | zero=>exact absurd HA.out (by simp[qqw.j2])
     | succ kj24 =>
      have H:=HA.out
      clear HA
      simp only[qqw.j2] at H
      replace H:=jq8.mp H
      obtain⟨⟨t136,t137,t138⟩,A350,H⟩:=H
      try dsimp only at H
      have A35:=U.mk A350
      clear A350
      by_cases c36:t136=true
      ·subst c36
       have H1:(if (x4_24.length:Int) > 0 then(if 0 < (x4_24.length:Int) then((qjk.f kj24 t101 t137 t138 ((vz x4_24 0).f0) ((vz x4_24 0).f1) ((vz x4_24 0).f2) ((vz x4_24 0).f3)).bind fun bt140=>(some (x4_24.set (0:Int).toNat (⟨bt140.1,bt140.2.1,bt140.2.2.1,bt140.2.2.2.1⟩ : S34)))) else(none)) else(some x4_24))=some r:=by rw[if_pos rfl] at H;exact H
       clear H
       have H:=H1
       clear H1
       by_cases c37:(x4_24.length:Int) > 0
       ·rw[if_pos c37] at H
        have c37b0:decide (0 < (x4_24.length:Int))=true:=decide_eq_true c37
        have c37b1:decide (0 < x4_24.length)=true:=decide_eq_true (by omega)
        clear c37
        by_cases c38 : 0 < (x4_24.length:Int)
        ·rw[if_pos c38] at H
         have c38b0:decide (0 < (x4_24.length:Int))=true:=decide_eq_true c38
         have c38b1:decide (0 < x4_24.length)=true:=decide_eq_true (by omega)
         clear c38
         replace H:=jq8.mp H
         obtain⟨⟨t140,t141,t142,t143,t144,t145⟩,A390,H⟩:=H
         try dsimp only at H
         have A39:=U.mk A390
         clear A390
         obtain⟨y146,hy146⟩ : ∃ y_:List (S34),y_=(x4_24.set (0:Int).toNat (⟨t140,t141,t142,t143⟩ : S34)):=⟨_,rfl⟩
         replace H:(some y146)=some r:=by first|(rw[hy146];with_reducible exact H)|(have H2_:=(Option.bind_some _ _).symm.trans H;rw[hy146];with_reducible exact H2_)|(have H2_:=(Option.bind_some _ _).symm.trans H;with_reducible exact H2_)|with_reducible exact H|(rw[hy146];exact H)|exact H
         have Ny146:=U.mk hy146
         clear hy146
         obtain rfl:=Option.some.inj H
         go_wp2_with (first|((with_reducible refine jw (f:=68) rfl ?_);refine goesL_ (some 50) rfl rfl Try.func68 (by kernel_rfl) rfl #[.pointer (some ⟨g104,0,none⟩),.int .i64 12] rfl (by(try simp only[jq0,jq1,jq2]);first|done|rfl|(simp only[jq3,jq4];rfl)) ?_;(with_reducible refine(qjw.calls g104 t101 x105001_24 x105002_24 12 true t137 t138 w _ ?side1 ?side2 A35.out).mono ?_);(case side1=>repeat(first|(with_reducible first|exact HI104.out|apply kx.alloc|apply kx.drewN|apply kx.drew|apply kx.set_1|apply kx.set_2)|exact HI104.out));(case side2=>repeat(first|(with_reducible first|exact HB.out|apply G|apply J|apply qq|refine qk ?_ (kx.ge HI104.out))|exact HB.out));rintro e w41 ⟨rfl,hi,hb,hk⟩;refine⟨_,rfl,?_⟩;replace HO_4:=U.mk (Kd.R_mono (Kd.R_keep (kx.apart (show kx w _ g104 t101 x105001_24 x105002_24 from by repeat(first|(with_reducible first|exact HI104.out|apply kx.alloc|apply kx.drewN|apply kx.drew|apply kx.set_1|apply kx.set_2)|exact HI104.out)) (by solve_by_elim only[HO_4.out,Kd.zv,Kd.zk,Kd.zw]) (by decide)) hk (fun _ h=>h.2)) (fun _ h=>h.1));replace HB:=U.mk (hb);replace HI104:=U.mk (hi);(try clear hb hk hi);obtain⟨Ao42,co42,eo42⟩:=Kd.R_slice HO_4.out;subst eo42;have p139 : 0≤(0:Int):=(by omega);have q139 : 0 < (x4_24.length:Int):=of_decide_eq_true (by assumption);obtain⟨ad139,e139,hx139_0,hx139_1,hx139_2,hx139_3⟩:=at_T34 (Kd.R_reads' HO_4.out).2.2 0 p139 q139;cases e139;have qi139:(0 < x4_24.length)=True:=eq_true (by omega);(try rw[show((0:Int)).toNat=0 from rfl] at hx139_0);(try rw[show 0 * 4=0 from rfl] at hx139_0);(try rw[Addr.add_zero'] at hx139_0);(try rw[show((0:Int)).toNat=0 from rfl] at hx139_1);(try rw[show 0 * 4=0 from rfl] at hx139_1);(try rw[Addr.add_zero'] at hx139_1);(try rw[show((0:Int)).toNat=0 from rfl] at hx139_2);(try rw[show 0 * 4=0 from rfl] at hx139_2);(try rw[Addr.add_zero'] at hx139_2);(try rw[show((0:Int)).toNat=0 from rfl] at hx139_3);(try rw[show 0 * 4=0 from rfl] at hx139_3);(try rw[Addr.add_zero'] at hx139_3);replace p139:=eq_true p139;replace q139:=eq_true q139)|((with_reducible refine jw (f:=87) rfl ?_);refine goesL_ (some 61) rfl rfl Try.func87 (by kernel_rfl) rfl #[.pointer (some ⟨g104,0,none⟩),.agg #[.int .i64 ((vz x4_24 0).f0),.int .i64 ((vz x4_24 0).f1),.string ((vz x4_24 0).f2),.string ((vz x4_24 0).f3)]] rfl (by(try simp only[jq0,jq1,jq2]);first|done|rfl|(simp only[jq3,jq4];rfl)) ?_;(with_reducible refine(qjk.calls kj24 g104 t101 t137 t138 ((vz x4_24 0).f0) ((vz x4_24 0).f1) ((vz x4_24 0).f2) ((vz x4_24 0).f3) t140 t141 t142 t143 t144 t145 w _ ?side1 ?side2 A39.out).mono ?_);(case side1=>repeat(first|(with_reducible first|exact HI104.out|apply kx.alloc|apply kx.drewN|apply kx.drew|apply kx.set_1|apply kx.set_2)|exact HI104.out));(case side2=>repeat(first|(with_reducible first|exact HB.out|apply G|apply J|apply qq|refine qk ?_ (kx.ge HI104.out))|exact HB.out));rintro e w43 ⟨rfl,hi,hb,hk⟩;refine⟨_,rfl,?_⟩;replace HO_4:=U.mk (Kd.R_mono (Kd.R_keep (kx.apart (show kx w _ g104 t101 t137 t138 from by repeat(first|(with_reducible first|exact HI104.out|apply kx.alloc|apply kx.drewN|apply kx.drew|apply kx.set_1|apply kx.set_2)|exact HI104.out)) (by solve_by_elim only[HO_4.out,Kd.zv,Kd.zk,Kd.zw]) (by decide)) hk (fun _ h=>h.2)) (fun _ h=>h.1));replace HB:=U.mk (hb);replace HI104:=U.mk (hi);(try clear hb hk hi hM40 hM44);have p40 : 0≤(0:Int):=(by omega);have q40:(0:Int) < ((x4_24.length:Int):Int):=of_decide_eq_true (by assumption);have qi40:(0 < x4_24.length)=True:=eq_true (by omega);obtain⟨go40,co40,eo40,gb40,gl40,cl40,HG40⟩:=Kd.R_form HO_4.out (by omega);(first|cases eo40|(injection eo40 with ea_ en_ ec_;(first|subst ea_|(injection ea_ with ea_;subst ea_));subst ec_;clear en_));have GB40:=U.mk gb40;have GG40:=U.mk HG40;clear gb40 gl40 HG40;(first|simp only[add_plain] at hx139_0|skip);(first|simp only[add_plain] at hx139_1|skip);(first|simp only[add_plain] at hx139_2|skip);(first|simp only[add_plain] at hx139_3|skip);obtain⟨ce40,hcl40,hM40,hcc40,hfr40⟩:=Kd.R_elem HO_4.out z34 (0:Int) p40 q40;obtain rfl:=k34_openM hM40;have hx40_0:w43.cell? ⟨go40,(0:Int).toNat * 4,none⟩ = some (.int .i64 ((vz x4_24 0).f0)):=hcc40 0 _ rfl;have hx40_1:w43.cell? ⟨go40,(0:Int).toNat * 4 + 1,none⟩ = some (.int .i64 ((vz x4_24 0).f1)):=hcc40 1 _ rfl;have hx40_2:w43.cell? ⟨go40,(0:Int).toNat * 4 + 2,none⟩ = some (.string ((vz x4_24 0).f2)):=hcc40 2 _ rfl;have hx40_3:w43.cell? ⟨go40,(0:Int).toNat * 4 + 3,none⟩ = some (.string ((vz x4_24 0).f3)):=hcc40 3 _ rfl;have hf40_0:w43.frozen? ⟨go40,(0:Int).toNat * 4,none⟩ = false:=hfr40 0;have hf40_1:w43.frozen? ⟨go40,(0:Int).toNat * 4 + 1,none⟩ = false:=hfr40 1;have hf40_2:w43.frozen? ⟨go40,(0:Int).toNat * 4 + 2,none⟩ = false:=hfr40 2;have hf40_3:w43.frozen? ⟨go40,(0:Int).toNat * 4 + 3,none⟩ = false:=hfr40 3;clear hcl40 hcc40 hfr40;(try rw[show((0:Int)).toNat=0 from rfl] at hx40_0);(try simp only[Nat.reduceMul,Nat.zero_mul,Nat.zero_add,Nat.reduceAdd] at hx40_0);(try rw[show((0:Int)).toNat=0 from rfl] at hf40_0);(try simp only[Nat.reduceMul,Nat.zero_mul,Nat.zero_add,Nat.reduceAdd] at hf40_0);(try rw[show((0:Int)).toNat=0 from rfl] at hx40_1);(try simp only[Nat.reduceMul,Nat.zero_mul,Nat.zero_add,Nat.reduceAdd] at hx40_1);(try rw[show((0:Int)).toNat=0 from rfl] at hf40_1);(try simp only[Nat.reduceMul,Nat.zero_mul,Nat.zero_add,Nat.reduceAdd] at hf40_1);(try rw[show((0:Int)).toNat=0 from rfl] at hx40_2);(try simp only[Nat.reduceMul,Nat.zero_mul,Nat.zero_add,Nat.reduceAdd] at hx40_2);(try rw[show((0:Int)).toNat=0 from rfl] at hf40_2);(try simp only[Nat.reduceMul,Nat.zero_mul,Nat.zero_add,Nat.reduceAdd] at hf40_2);(try rw[show((0:Int)).toNat=0 from rfl] at hx40_3);(try simp only[Nat.reduceMul,Nat.zero_mul,Nat.zero_add,Nat.reduceAdd] at hx40_3);(try rw[show((0:Int)).toNat=0 from rfl] at hf40_3);(try simp only[Nat.reduceMul,Nat.zero_mul,Nat.zero_add,Nat.reduceAdd] at hf40_3);replace p40:=eq_true p40;replace q40:=eq_true q40;have HX44:=U.mk (show Kd.R k34 34 w43 w.heap.size (fun _=>True) (.slice (some ⟨go40,0,none⟩) x4_24.length co42) x4_24 from(by solve_by_elim only[HO_4.out,Kd.zv,Kd.zk,Kd.zw]));obtain⟨ce44,hcl44,hM44,hcc44,hfr44⟩:=Kd.R_elem HX44.out z34 (0:Int) (by omega) (by have h_:(0:Int) < ((x4_24.length:Int):Int):=of_decide_eq_true (by assumption);first|exact h_|(have e_:=(Kd.R_reads' HO_4.out).1;omega)|simpa using h_);obtain rfl:=k34_openM hM44;have HP44:=Kd.R_seg HX44.out (0:Int) (by omega) (by have h_:(0:Int) < ((x4_24.length:Int):Int):=of_decide_eq_true (by assumption);first|exact h_|(have e_:=(Kd.R_reads' HO_4.out).1;omega)|simpa using h_) (seg:=[.int .i64 t140,.int .i64 t141,.string t142,.string t143]) (j:=0) hcl44 hcc44 (show 4≤4 from by decide) (x':=(⟨t140,t141,t142,t143⟩ : S34)) (k34_mkM _ _ _ (⟨t140,t141,t142,t143⟩ : S34) ) (fun _ hk=>hk);have hx44_0:=hcc44 0 _ rfl;(try simp only[show(k34).sz=4 from rfl,Nat.mul_one,Nat.add_zero] at hx44_0);(try rw[show((0:Int)).toNat=0 from rfl] at hx44_0);(try simp only[Nat.reduceMul,Nat.zero_mul,Nat.zero_add,Nat.reduceAdd] at hx44_0);have hf44_0:=hfr44 0;(try simp only[show(k34).sz=4 from rfl,Nat.mul_one,Nat.add_zero] at hf44_0);(try rw[show((0:Int)).toNat=0 from rfl] at hf44_0);(try simp only[Nat.reduceMul,Nat.zero_mul,Nat.zero_add,Nat.reduceAdd] at hf44_0);have hx44_1:=hcc44 1 _ rfl;(try simp only[show(k34).sz=4 from rfl,Nat.mul_one,Nat.add_zero] at hx44_1);(try rw[show((0:Int)).toNat=0 from rfl] at hx44_1);(try simp only[Nat.reduceMul,Nat.zero_mul,Nat.zero_add,Nat.reduceAdd] at hx44_1);have hf44_1:=hfr44 1;(try simp only[show(k34).sz=4 from rfl,Nat.mul_one,Nat.add_zero] at hf44_1);(try rw[show((0:Int)).toNat=0 from rfl] at hf44_1);(try simp only[Nat.reduceMul,Nat.zero_mul,Nat.zero_add,Nat.reduceAdd] at hf44_1);have hx44_2:=hcc44 2 _ rfl;(try simp only[show(k34).sz=4 from rfl,Nat.mul_one,Nat.add_zero] at hx44_2);(try rw[show((0:Int)).toNat=0 from rfl] at hx44_2);(try simp only[Nat.reduceMul,Nat.zero_mul,Nat.zero_add,Nat.reduceAdd] at hx44_2);have hf44_2:=hfr44 2;(try simp only[show(k34).sz=4 from rfl,Nat.mul_one,Nat.add_zero] at hf44_2);(try rw[show((0:Int)).toNat=0 from rfl] at hf44_2);(try simp only[Nat.reduceMul,Nat.zero_mul,Nat.zero_add,Nat.reduceAdd] at hf44_2);have hx44_3:=hcc44 3 _ rfl;(try simp only[show(k34).sz=4 from rfl,Nat.mul_one,Nat.add_zero] at hx44_3);(try rw[show((0:Int)).toNat=0 from rfl] at hx44_3);(try simp only[Nat.reduceMul,Nat.zero_mul,Nat.zero_add,Nat.reduceAdd] at hx44_3);have hf44_3:=hfr44 3;(try simp only[show(k34).sz=4 from rfl,Nat.mul_one,Nat.add_zero] at hf44_3);(try rw[show((0:Int)).toNat=0 from rfl] at hf44_3);(try simp only[Nat.reduceMul,Nat.zero_mul,Nat.zero_add,Nat.reduceAdd] at hf44_3);clear hcl44 hcc44 hfr44)|((with_reducible refine jx (t:=34) (p:=62) rfl ?_);refine kz (t:=34) (p:=62) (v:=?vo_w45) (w1:=((((w43.setCell ⟨go40,0,none⟩ (.int .i64 t140)).setCell ⟨go40,1,none⟩ (.int .i64 t141)).setCell ⟨go40,2,none⟩ (.string t142)).setCell ⟨go40,3,none⟩ (.string t143))) ?hg ?ho ?hn ?hr ?_;(case ho=>rfl);(case hg=>rfl);(case hn=>rfl);(case hr=>first|(go_simp;done)|(go_simp;rfl));intro w45 hw;have hg:w43.grownBy w45 (some go40):=(by rw[hw];exact HP44.2);have hp_:Kd.R k34 34 w45 w.heap.size (fun _=>True) (.slice (some ⟨go40,0,none⟩) x4_24.length co42) y146:=(by rw[hw,Ny146.out];exact HP44.1);clear HP44;replace HI104:=U.mk (kx.grown (by solve_by_elim (maxDepth:=20) only[HI104.out,kx.alloc,kx.drewN,kx.drew,kx.set_1,kx.set_2]) hg (kx.own_ne HI104.out HO_4.out (by decide)));replace HO_4:=U.mk (hp_);replace HB:=U.mk ((by rw[hw];exact qk (qk (qk (qk (HB.out) GB40.out) GB40.out) GB40.out) GB40.out:Below w.heap.size w w45));clear hg hw hp_))
         go_ret
         exact⟨_,by first|rfl|(simp[*,jv,jk] <;> rfl),by(with_reducible repeat(first|apply Kd.zv|apply Kd.zk|apply Kd.zw));exact HO_4.out,by repeat(first|(with_reducible first|exact HB.out|apply G|apply J|apply qq|refine qk ?_ (kx.ge HI104.out))|exact HB.out)⟩
        ·rw[if_neg c38] at H
         exact absurd H (by simp)
       ·rw[if_neg c37] at H
        have c37b0:decide (0 < (x4_24.length:Int))=false:=decide_eq_false c37
        have c37b1:decide (0 < x4_24.length)=false:=decide_eq_false (by omega)
        clear c37
        obtain rfl:=Option.some.inj H
        go_wp2_with (first|((with_reducible refine jw (f:=68) rfl ?_);refine goesL_ (some 50) rfl rfl Try.func68 (by kernel_rfl) rfl #[.pointer (some ⟨g104,0,none⟩),.int .i64 12] rfl (by(try simp only[jq0,jq1,jq2]);first|done|rfl|(simp only[jq3,jq4];rfl)) ?_;(with_reducible refine(qjw.calls g104 t101 x105001_24 x105002_24 12 true t137 t138 w _ ?side1 ?side2 A35.out).mono ?_);(case side1=>repeat(first|(with_reducible first|exact HI104.out|apply kx.alloc|apply kx.drewN|apply kx.drew|apply kx.set_1|apply kx.set_2)|exact HI104.out));(case side2=>repeat(first|(with_reducible first|exact HB.out|apply G|apply J|apply qq|refine qk ?_ (kx.ge HI104.out))|exact HB.out));rintro e w46 ⟨rfl,hi,hb,hk⟩;refine⟨_,rfl,?_⟩;replace HO_4:=U.mk (Kd.R_mono (Kd.R_keep (kx.apart (show kx w _ g104 t101 x105001_24 x105002_24 from by repeat(first|(with_reducible first|exact HI104.out|apply kx.alloc|apply kx.drewN|apply kx.drew|apply kx.set_1|apply kx.set_2)|exact HI104.out)) (by solve_by_elim only[HO_4.out,Kd.zv,Kd.zk,Kd.zw]) (by decide)) hk (fun _ h=>h.2)) (fun _ h=>h.1));replace HB:=U.mk (hb);replace HI104:=U.mk (hi);(try clear hb hk hi);obtain⟨Ao47,co47,eo47⟩:=Kd.R_slice HO_4.out;subst eo47))
        go_ret
        exact⟨_,by first|rfl|(simp[*,jv,jk] <;> rfl),by(with_reducible repeat(first|apply Kd.zv|apply Kd.zk|apply Kd.zw));exact HO_4.out,by repeat(first|(with_reducible first|exact HB.out|apply G|apply J|apply qq|refine qk ?_ (kx.ge HI104.out))|exact HB.out)⟩
      ·replace c36:=jq9.mpr c36
       subst c36
       have H1:(some x4_24)=some r:=by rw[if_neg (show ¬ (false=true) by decide)] at H;exact H
       clear H
       have H:=H1
       clear H1
       obtain rfl:=Option.some.inj H
       go_wp2_with (first|((with_reducible refine jw (f:=68) rfl ?_);refine goesL_ (some 50) rfl rfl Try.func68 (by kernel_rfl) rfl #[.pointer (some ⟨g104,0,none⟩),.int .i64 12] rfl (by(try simp only[jq0,jq1,jq2]);first|done|rfl|(simp only[jq3,jq4];rfl)) ?_;(with_reducible refine(qjw.calls g104 t101 x105001_24 x105002_24 12 false t137 t138 w _ ?side1 ?side2 A35.out).mono ?_);(case side1=>repeat(first|(with_reducible first|exact HI104.out|apply kx.alloc|apply kx.drewN|apply kx.drew|apply kx.set_1|apply kx.set_2)|exact HI104.out));(case side2=>repeat(first|(with_reducible first|exact HB.out|apply G|apply J|apply qq|refine qk ?_ (kx.ge HI104.out))|exact HB.out));rintro e w48 ⟨rfl,hi,hb,hk⟩;refine⟨_,rfl,?_⟩;replace HO_4:=U.mk (Kd.R_mono (Kd.R_keep (kx.apart (show kx w _ g104 t101 x105001_24 x105002_24 from by repeat(first|(with_reducible first|exact HI104.out|apply kx.alloc|apply kx.drewN|apply kx.drew|apply kx.set_1|apply kx.set_2)|exact HI104.out)) (by solve_by_elim only[HO_4.out,Kd.zv,Kd.zk,Kd.zw]) (by decide)) hk (fun _ h=>h.2)) (fun _ h=>h.1));replace HB:=U.mk (hb);replace HI104:=U.mk (hi);(try clear hb hk hi)))
       go_ret
       exact⟨_,by first|rfl|(simp[*,jv,jk] <;> rfl),by(with_reducible repeat(first|apply Kd.zv|apply Kd.zk|apply Kd.zw));exact HO_4.out,by repeat(first|(with_reducible first|exact HB.out|apply G|apply J|apply qq|refine qk ?_ (kx.ge HI104.out))|exact HB.out)⟩
end Go.Proofs.Ytccbjchlcelkgaa.Pr
namespace Go.Proofs.Ytccbjchlcelkgaa.Pr
open Go.RowKit Go.Proofs.YtccbjchlcelkgaaW.PrintWords Go.Proofs.YtccbjchlcelkgaaW.PrintLast Go.Proofs.YtccbjchlcelkgaaW.PrintMore
def anyO {α:Type} (p : α→Option Bool):List α→Option Bool
 | []=>some false
 | x :: xs=>(p x).bind fun b=>if b=true then some true else anyO p xs
theorem anyO_mono {α:Type} {p q : α→Option Bool} (h:∀ x,LeO (p x) (q x)):∀ l:List α,LeO (anyO p l) (anyO q l)
 | []=>LeO.refl _
 | x :: xs=>LeO.bind (h x) (fun _=>LeO.ite (LeO.refl _) (anyO_mono h xs))
theorem anyO_drop {α:Type} {p : α→Option Bool} {l:List α} {k:Nat} {r:Bool} (hk:k < l.length) (h:anyO p (l.drop k)=some r):∃ b,p l[k]=some b∧(b=true→r=true)∧(b=false→anyO p (l.drop (k + 1))=some r):=by
 rw[List.drop_eq_getElem_cons hk] at h
 obtain⟨b,hb,h2⟩:=jq8.1 h
 refine⟨b,hb,fun e=>?_,fun e=>?_⟩
 ·subst e;simpa using h2.symm
 ·subst e;simpa using h2
end Go.Proofs.Ytccbjchlcelkgaa.Pr
namespace Go.Proofs.Ytccbjchlcelkgaa.Pr
open Go.RowKit Go.Proofs.YtccbjchlcelkgaaW.PrintWords Go.Proofs.YtccbjchlcelkgaaW.PrintLast Go.Proofs.YtccbjchlcelkgaaW.PrintMore
set_option linter.unusedVariables false
set_option linter.unusedSimpArgs false
def vx.f (l0:List S34):Option (List S34):=if l0.length < 2932031007402 then some l0 else none
set_option maxHeartbeats 2000000 in
theorem vx.calls (A0:Option Addr) (c0:Nat) (l0:List S34) (r:List S34) (w:World) (hr0:Kd.C k34 w A0 l0.length l0) (hc0:l0.length≤c0) (h:vx.f l0=some r) :
  Calls Try.prog 90 #[.slice A0 l0.length c0] w fun e w'=>∃ v0_:Value,e=.returned (v0_)∧Kd.R k34 34 w' w.heap.size (fun _=>True) v0_ r∧Below w.heap.size w w':=by
 unfold vx.f at h
 by_cases hl:l0.length < 2932031007402
 case neg=>rw[if_neg hl] at h;cases h
 rw[if_pos hl] at h
 obtain rfl:=Option.some.inj h
 clear h
 have HB:=U.mk (Below.refl w.heap.size w)
 have heqnil_:=fun (W:World) (A:Option Addr) (n c:Nat)=>Lib.run_eql_slice_nil (P:=Try.prog) W 54 34 A n c 0 0 Try.underlying54
 cases A0 with
 | none =>
  have h0:l0=[]:=by
   cases l0 with
   | nil=>rfl
   | cons x xs =>
    obtain⟨ad,e,_⟩:=at_T34 hr0 0 (by omega) (by simp)
    cases e
  subst h0
  clear hr0 hc0 hl
  go_enter Try.func90,Try.ntmps90
  go_wp2
  go_ret
  exact⟨_,rfl,Kd.R_nil _ _ _ _ _,HB.out⟩
 | some ad =>
  have HR0:=U.mk hr0
  have HL:=U.mk hl
  clear hr0 hc0 hl
  go_enter Try.func90,Try.ntmps90
  go_wp2_with (first|((with_reducible refine gate_dst (N:=5) rfl ?_);refine Kd.R_lit k34 _ 34 ?hg (N:=5) ?hd (xs:=([]:List (S34))) (inner:=[]) (ok:=fun _=>True) (okp:=fun _=>True) ?hr ?hp (fun _ hk=>hk) trivial (Below.refl _ _) (Nat.le_refl _) (by simp) ?_;(case hd=>rfl);(case hg=>rfl);(case hr=>first|(go_simp;done)|(go_simp;rfl));(case hp=>exact(Reps.none _ _));intro v103 w5 ho6 hb hg_ hnew_;clear hg_ hnew_;have HO104:=U.mk (Kd.R_lower ho6 (zj (by repeat(first|exact HB.out|apply G|apply J|apply qq))));replace HB:=U.mk (zz (by repeat(first|exact HB.out|apply G|apply J|apply qq)) hb);clear hb ho6)|((with_reducible refine gate_builtin (b:=.append) (xs:=#[.tmp 5,.tmp 6]) rfl ?_);at_builtin;refine Kd.R_append_rows k34 (w0:=w) w.heap.size rfl (.tmp 5) (.tmp 6) 54 34 (.agg #[(.int .i64 0),(.int .i64 0),(.string ⟨#[]⟩),(.string ⟨#[]⟩)]) 48 rfl Try.underlying54 info34 rfl (by decide) (by omega) v103 ([]:List S34) l0 _ _ _ (fun _=>True) (fun _=>False) rfl rfl ?aO ?aR (fun _ _ h=>h) (fun _ h=>h.elim) ?aF ?aB ?aS ?aL ?_;(case aR=>repeat(first|exact(Kd.C_below HR0.out HB.out)|(with_reducible refine Kd.C_alloc ?_ _)|(with_reducible refine Kd.C_drewN ?_ _)|(with_reducible refine Kd.C_drew ?_)));(case aB=>exact(by repeat(first|exact HB.out|apply G|apply J|apply qq)));(case aF=>exact(fun _ _=>trivial));(case aO=>exact(by solve_by_elim only[HO104.out,Kd.zv,Kd.zk,Kd.zw]));(case aS=>exact(zj (by repeat(first|exact HB.out|apply G|apply J|apply qq))));(case aL=>have:=HL.out;simp;omega);intro v106 w7 ho hb hg hat;replace HB:=U.mk (hb);have HO107:=U.mk (ho);clear HO104;clear ho hb hg hat))
  go_ret
  exact⟨_,rfl,by(with_reducible repeat(first|apply Kd.zv|apply Kd.zk|apply Kd.zw));exact HO107.out,by repeat(first|exact HB.out|apply G|apply J|apply qq)⟩
end Go.Proofs.Ytccbjchlcelkgaa.Pr
namespace Go.Proofs.Ytccbjchlcelkgaa.Pr
open Go.RowKit Go.Proofs.YtccbjchlcelkgaaW.PrintWords Go.Proofs.YtccbjchlcelkgaaW.PrintLast Go.Proofs.YtccbjchlcelkgaaW.PrintMore
open Go.Sort (HoldsK flatK size_flatK get_flatK putRowK)
set_option linter.unusedVariables false
set_option linter.unusedSimpArgs false
abbrev AtmT:=S34
instance:Inhabited AtmT:=⟨z34⟩
def encAtm (x:AtmT):List Value:=[.int .i64 x.f0,.int .i64 x.f1,.string x.f2,.string x.f3]
theorem encAtm_len (x:AtmT):(encAtm x).length=4:=rfl
theorem encAtm_one (x:AtmT):∀ v ∈ encAtm x,v.oneCell'=true:=by
 intro v hv
 simp only[encAtm,List.mem_cons,List.not_mem_nil,or_false] at hv
 rcases hv with rfl|rfl|rfl|rfl <;> rfl
theorem atm_open {w:World} {base:Nat} {ok:Nat→Prop} {v:Value} {l:List AtmT} (h:Kd.R k34 34 w base ok v l) (hl:l≠[]) :
  ∃ g cap cur,v=.slice (some ⟨g,0,none⟩) l.length cap∧base≤g∧ok g∧w.heap[g]? = some (.cells cur 34 (0,0))∧l.length≤cap∧cap≤maxLen∧cur.size=cap * 4∧∀ i,i < l.length→∀ c,c < 4→cur[i * 4 + c]? = (encAtm l[i]!)[c]?:=by
 obtain⟨h0,inner,⟨hlen,ho⟩,hr⟩:=h
 rcases ho with ⟨_,hn⟩|⟨g,cap,cur,rfl,hg,hh,h1,h2,h3,h4⟩
 ·exact absurd (List.eq_nil_of_length_eq_zero hn) hl
 refine⟨g,cap,cur,rfl,hg,h0 g rfl,hh,h1,h2,h3,fun i hi c hc=>?_⟩
 have hk:(inner.drop (i * 4)).take 4=encAtm l[i]:=k34_openM (hr.2 i l[i] (List.getElem?_eq_getElem hi))
 have e:inner[i * 4 + c]? = (encAtm l[i])[c]?:=by
  rw[← hk,List.getElem?_take,if_pos hc,List.getElem?_drop]
 have h5:cur.toList.take (l.length * 4)=inner:=h4
 rw[getElem!_pos l i hi,← e,← h5,List.getElem?_take,if_pos (by omega),Array.getElem?_toList]
theorem atm_holds {w:World} {g:Nat} {cur:Array Value} {l:List AtmT} (hh:w.heap[g]? = some (.cells cur 34 (0,0))) (hc:∀ i,i < l.length→∀ c,c < 4→cur[i * 4 + c]? = (encAtm l[i]!)[c]?):HoldsK encAtm 4 w g 0 l.toArray:=by
 intro t ht
 have ht4:t < l.toArray.size * 4:=by rw[size_flatK] at ht;exact ht
 have ht':t < l.length * 4:=by simpa using ht4
 refine⟨?_,qz hh (0 + t)⟩
 rw[qj hh (0 + t),Nat.zero_add,get_flatK _ _ _ t ht4]
 have h1:=hc (t / 4) (by omega) (t % 4) (by omega)
 rw[show t / 4 * 4 + t % 4=t by omega] at h1
 rw[h1]
 have h2:(l.toArray)[t / 4]! = l[t / 4]!:=by simp
 rw[h2]
 have h3:t % 4 < (encAtm l[t / 4]!).length:=by rw[encAtm_len];omega
 rw[List.getElem?_eq_getElem h3,getElem!_pos (encAtm l[t / 4]!) (t % 4) h3]
 rfl
theorem atm_laid {w:World} {g:Nat} {cur:Array Value} {l:List AtmT} (hh:w.heap[g]? = some (.cells cur 34 (0,0))) (n:Nat) (os:Array Obj) :
  (sortWorldK encAtm 4 w g 0 n l.toArray os).heap[g]? = some (.cells (Sort.putCells id 0 (flatK encAtm 4 l.toArray) cur) 34 (0,0)):=by
 have hg:g < w.heap.size:=(Array.getElem?_eq_some_iff.1 hh).1
 unfold sortWorldK putRowK Sort.putRow Sort.mapBlock
 show((w.heap.modify g _) ++ os)[g]? = _
 rw[Array.getElem?_append_left (by simpa using hg),Array.getElem?_modify,if_pos rfl,hh]
 rfl
theorem atm_else {w:World} {g:Nat} {l:List AtmT} (n:Nat) (os:Array Obj) (i:Nat) (hi:i < w.heap.size) (hne:i≠g) :
  (sortWorldK encAtm 4 w g 0 n l.toArray os).heap[i]? = w.heap[i]?:=by
 unfold sortWorldK putRowK Sort.putRow Sort.mapBlock
 show((w.heap.modify g _) ++ os)[i]? = _
 rw[Array.getElem?_append_left (by simpa using hi),Array.getElem?_modify,if_neg (fun e=>hne e.symm)]
theorem atm_size {w:World} {g:Nat} {l:List AtmT} (n:Nat) (os:Array Obj):w.heap.size≤(sortWorldK encAtm 4 w g 0 n l.toArray os).heap.size:=size_sortWorldK_c _ _ _ _ _ _ _ _
theorem atm_back {w:World} {base:Nat} {ok:Nat→Prop} {g cap:Nat} {cur:Array Value} {l:List AtmT} (hg:base≤g) (hok:ok g) (hh:w.heap[g]? = some (.cells cur 34 (0,0))) (h1:l.length≤cap) (h2:cap≤maxLen) (h3:cur.size=cap * 4) (n:Nat) (os:Array Obj) :
  Kd.R k34 34 (sortWorldK encAtm 4 w g 0 n l.toArray os) base ok (.slice (some ⟨g,0,none⟩) l.length cap) l:=by
 have hs:(Sort.putCells id 0 (flatK encAtm 4 l.toArray) cur).size=cap * 4:=by unfold Sort.putCells;rw[Array.size_mapIdx];exact h3
 have hcell:∀ t,t < l.length * 4→(Sort.putCells id 0 (flatK encAtm 4 l.toArray) cur)[t]? = (encAtm l[t / 4]!)[t % 4]?:=by
  intro t ht
  have ht4:t < l.toArray.size * 4:=by simpa using ht
  have htc:t < cur.size:=by rw[h3];omega
  unfold Sort.putCells
  rw[Array.getElem?_mapIdx,Array.getElem?_eq_getElem htc]
  simp only[Option.map_some]
  rw[if_pos (show 0≤t∧t < 0 + (flatK encAtm 4 l.toArray).size by rw[size_flatK];omega),Nat.sub_zero,get_flatK _ _ _ t ht4]
  have e2:(l.toArray)[t / 4]! = l[t / 4]!:=by simp
  rw[e2]
  have e3:t % 4 < (encAtm l[t / 4]!).length:=by rw[encAtm_len];omega
  rw[List.getElem?_eq_getElem e3,getElem!_pos (encAtm l[t / 4]!) (t % 4) e3]
  rfl
 have hlen:((Sort.putCells id 0 (flatK encAtm 4 l.toArray) cur).toList.take (l.length * 4)).length=l.length * 4:=by
  have hz:(Sort.putCells id 0 (flatK encAtm 4 l.toArray) cur).toList.length=cap * 4:=by rw[Array.length_toList];exact hs
  rw[jq4,hz]
  exact Nat.min_eq_left (by omega)
 refine⟨fun k hk=>?_,(Sort.putCells id 0 (flatK encAtm 4 l.toArray) cur).toList.take (l.length * 4),⟨?_,.inr ⟨g,cap,_,rfl,hg,atm_laid hh n os,h1,h2,hs,rfl⟩⟩,?_,fun j p hp=>?_⟩
 ·have:g=k:=by simpa [Value.ownBlock] using hk
  subst this
  exact hok
 ·exact hlen
 ·exact hlen
 ·have hj:j < l.length:=(List.getElem?_eq_some_iff.1 hp).1
  have hpe:l[j]! = p:=by rw[getElem!_pos l j hj];exact(List.getElem?_eq_some_iff.1 hp).2
  have e:(((Sort.putCells id 0 (flatK encAtm 4 l.toArray) cur).toList.take (l.length * 4)).drop (j * 4)).take 4=encAtm p:=by
   apply List.ext_getElem?
   intro c
   by_cases hc:c < 4
   ·rw[List.getElem?_take,if_pos hc,List.getElem?_drop,List.getElem?_take,if_pos (by omega),Array.getElem?_toList,hcell _ (by omega),show(j * 4 + c) / 4=j by omega,show(j * 4 + c) % 4=c by omega,hpe]
   ·rw[List.getElem?_take,if_neg hc]
    exact(List.getElem?_eq_none (by rw[encAtm_len];omega)).symm
  show k34.M _ _ _ p ((((Sort.putCells id 0 (flatK encAtm 4 l.toArray) cur).toList.take (l.length * 4)).drop (j * 4)).take 4)
  rw[e]
  exact k34_mkM _ _ _ p
end Go.Proofs.Ytccbjchlcelkgaa.Pr
namespace Go.Proofs.Ytccbjchlcelkgaa.Pr
open Go.RowKit Go.Proofs.Ytccbjchlcelkgaa.Read Go.Proofs.YtccbjchlcelkgaaW.PrintWords
theorem w64 {n:Int} (h0 : -9223372036854775808≤n) (h1:n≤9223372036854775807):wrap64 n=n:=by unfold wrap64;omega
end Go.Proofs.Ytccbjchlcelkgaa.Pr
namespace Go.Proofs.Ytccbjchlcelkgaa.Pr
open Go.RowKit Go.Proofs.YtccbjchlcelkgaaW.PrintWords Go.Proofs.YtccbjchlcelkgaaW.PrintLast Go.Proofs.YtccbjchlcelkgaaW.PrintMore
attribute [local go_sem] max2_int min2_int max_two min_two max_three min_three max_four min_four
set_option linter.unusedVariables false
set_option linter.unusedSimpArgs false
def qzw.f (a0:Int) (a1:Int):Option (Int):=if a0 < a1 then(some (-1)) else(if a0 > a1 then(some 1) else(some 0))
theorem qzw.calls (a0:Int) (a1:Int) (r:Int) (w:World) (h:qzw.f a0 a1=some r) :
  Calls Try.prog 143 #[.int .i64 a0,.int .i64 a1] w fun e w'=>e=.returned (.int .i64 r)∧Drawn0 w w':=by
 unfold qzw.f at h
 have H:=h
 clear h
 by_cases c3:a0 < a1
 ·rw[if_pos c3] at H
  have c3b0:decide (a0 < a1)=true:=decide_eq_true c3
  clear c3
  obtain rfl:=Option.some.inj H
  go_enter Try.func143,Try.ntmps143
  go_wp2
  go_ret
  exact⟨by first|rfl|(simp;done)|(simp[*];done),by repeat(first|exact Drawn0.refl _|apply Drawn0.step)⟩
 ·rw[if_neg c3] at H
  have c3b0:decide (a0 < a1)=false:=decide_eq_false c3
  clear c3
  by_cases c4:a0 > a1
  ·rw[if_pos c4] at H
   have c4b0:decide (a1 < a0)=true:=decide_eq_true c4
   clear c4
   obtain rfl:=Option.some.inj H
   go_enter Try.func143,Try.ntmps143
   go_wp2
   go_ret
   exact⟨by first|rfl|(simp;done)|(simp[*];done),by repeat(first|exact Drawn0.refl _|apply Drawn0.step)⟩
  ·rw[if_neg c4] at H
   have c4b0:decide (a1 < a0)=false:=decide_eq_false c4
   clear c4
   obtain rfl:=Option.some.inj H
   go_enter Try.func143,Try.ntmps143
   go_wp2
   go_ret
   exact⟨by first|rfl|(simp;done)|(simp[*];done),by repeat(first|exact Drawn0.refl _|apply Drawn0.step)⟩
end Go.Proofs.Ytccbjchlcelkgaa.Pr
namespace Go.Proofs.Ytccbjchlcelkgaa.Pr
open Go.RowKit Go.Proofs.YtccbjchlcelkgaaW.PrintWords Go.Proofs.YtccbjchlcelkgaaW.PrintLast Go.Proofs.YtccbjchlcelkgaaW.PrintMore
attribute [local go_sem] max2_int min2_int max_two min_two max_three min_three max_four min_four
set_option linter.unusedVariables false
set_option linter.unusedSimpArgs false
mutual
def qzx.l0:Nat→ByteArray→ByteArray→Int→Option (Int)
 | 0,_,_,_=>none
 | k + 1,x0,x1,x5=>if x5 < (x0.size:Int) then(qzx.j1 k x0 x1 x5 (decide (x5 < (x1.size:Int)))) else(qzx.j1 k x0 x1 x5 false)
def qzx.j1:Nat→ByteArray→ByteArray→Int→Bool→Option (Int)
 | 0,_,_,_,_=>none
 | k + 1,x0,x1,x5,x15=>if x15=true then(if 0≤x5 then(if x5 < (x0.size:Int) then(if x5 < (x1.size:Int) then(if (bt x0 x5)=(bt x1 x5) then(qzx.l0 k x0 x1 (wrap64 (x5 + 1))) else((qzw.f (wrap64 (bt x0 x5)) (wrap64 (bt x1 x5))).bind fun t101=>(some t101))) else(none)) else(none)) else(none)) else((qzw.f (x0.size:Int) (x1.size:Int)).bind fun t102=>(some t102))
end
def qzx.f (k:Nat) (a0:ByteArray) (a1:ByteArray):Option (Int):=qzx.l0 k a0 a1 0
theorem qzx.calls (k:Nat) (a0:ByteArray) (a1:ByteArray) (r:Int) (w:World) (h:qzx.f k a0 a1=some r) :
  Calls Try.prog 98 #[.string a0,.string a1] w fun e w'=>e=.returned (.int .i64 r)∧Drawn0 w w':=by
 have H:(qzx.l0 k a0 a1 0)=some r:=h
 clear h
 have H':=U.mk H
 clear H
 go_enter Try.func98,Try.ntmps98
 go_wp2
 repeat(go_quiet (fail);try go_wp2)
 go_loopg [5] k (fun kq v5 w'=>∃ (x5_1:Int),v5=.int .i64 x5_1∧U (qzx.l0 kq a0 a1 x5_1=some r)∧U (kq≤k)∧Drawn0 w w')
 case atStart=>exact⟨(0),(by first|rfl|(simp;done)|(simp[*];done)),H',⟨Nat.le_refl _⟩,by repeat(first|exact Drawn0.refl _|apply Drawn0.step)⟩
 case round =>
  clear H'
  try clear p2
  obtain⟨x5_1,rfl,HA,HK1,⟨m1,rfl⟩⟩:=hrel
  cases gk with
  | zero=>exact absurd HA.out (by simp[qzx.l0])
  | succ k1 =>
   have H:=HA.out
   clear HA
   simp only[qzx.l0] at H
   have HC3:=U.mk H
   clear H
   go_upto_region 2 with (fail)
   repeat(go_quiet (fail);go_upto_region 2 with (fail))
   go_cut [15] (fun v15 wc=>∃ (kq:Nat) (x15_2:Bool),v15=.bool x15_2∧U (qzx.j1 kq a0 a1 x5_1 x15_2=some r)∧U (kq≤k1)∧Drawn0 w wc)
   case first =>
    have H:=HC3.out
    clear HC3
    by_cases c4:x5_1 < (a0.size:Int)
    ·rw[if_pos c4] at H
     have c4b0:decide (x5_1 < (a0.size:Int))=true:=decide_eq_true c4
     clear c4
     (first|rw[c4b0]|(simp only[i64_w,i32_w];rw[c4b0])|skip)
     have H':=U.mk H
     clear H
     go_wp2
     repeat(go_quiet (fail);try go_wp2)
     go_meet
     case rel=>exact⟨_,(decide (x5_1 < (a1.size:Int))),(by first|rfl|(simp;done)|(simp[*];done)),H',⟨by have:=HK1.out;first|omega|exact Nat.le_refl _⟩,by repeat(first|exact Drawn0.refl _|apply Drawn0.step)⟩
    ·rw[if_neg c4] at H
     have c4b0:decide (x5_1 < (a0.size:Int))=false:=decide_eq_false c4
     clear c4
     (first|rw[c4b0]|(simp only[i64_w,i32_w];rw[c4b0])|skip)
     have H':=U.mk H
     clear H
     go_wp2
     repeat(go_quiet (fail);try go_wp2)
     go_meet
     case rel=>exact⟨_,(false),(by first|rfl|(simp;done)|(simp[*];done)),H',⟨by have:=HK1.out;first|omega|exact Nat.le_refl _⟩,by repeat(first|exact Drawn0.refl _|apply Drawn0.step)⟩
   case rest =>
    clear HC3
    try clear p2
    try clear c4
    try clear c4b0
    try clear p2
    obtain⟨kq,x15_2,rfl,HA,HJ2,⟨mc2,rfl⟩⟩:=hcut
    cases kq with
    | zero=>exact absurd HA.out (by simp[qzx.j1])
    | succ kj2 =>
     have H:=HA.out
     clear HA
     simp only[qzx.j1] at H
     by_cases c5:x15_2=true
     ·subst c5
      have H1:(if 0≤x5_1 then(if x5_1 < (a0.size:Int) then(if x5_1 < (a1.size:Int) then(if (bt a0 x5_1)=(bt a1 x5_1) then(qzx.l0 kj2 a0 a1 (wrap64 (x5_1 + 1))) else((qzw.f (wrap64 (bt a0 x5_1)) (wrap64 (bt a1 x5_1))).bind fun t101=>(some t101))) else(none)) else(none)) else(none))=some r:=by rw[if_pos rfl] at H;exact H
      clear H
      have H:=H1
      clear H1
      by_cases c6 : 0≤x5_1
      ·rw[if_pos c6] at H
       have c6b0:decide (0≤x5_1)=true:=decide_eq_true c6
       clear c6
       by_cases c7:x5_1 < (a0.size:Int)
       ·rw[if_pos c7] at H
        have c7b0:decide (x5_1 < (a0.size:Int))=true:=decide_eq_true c7
        clear c7
        by_cases c9:x5_1 < (a1.size:Int)
        ·rw[if_pos c9] at H
         have c9b0:decide (x5_1 < (a1.size:Int))=true:=decide_eq_true c9
         clear c9
         by_cases c11:(bt a0 x5_1)=(bt a1 x5_1)
         ·rw[if_pos c11] at H
          have c11b0:((bt a0 x5_1) == (bt a1 x5_1))=true:=beq_iff_eq.mpr c11
          have c11b1:((bt a0 x5_1) != (bt a1 x5_1))=false:=bne_eq_false_iff_eq.mpr c11
          clear c11
          have H':=U.mk H
          clear H
          have p8 : 0≤(x5_1:Int):=of_decide_eq_true (by assumption)
          have q8:x5_1 < (a0.size:Int):=of_decide_eq_true (by assumption)
          have hx8:=bt_at a0 x5_1
          replace p8:=eq_true p8
          replace q8:=eq_true q8
          have p10 : 0≤(x5_1:Int):=of_decide_eq_true (by assumption)
          have q10:x5_1 < (a1.size:Int):=of_decide_eq_true (by assumption)
          have hx10:=bt_at a1 x5_1
          replace p10:=eq_true p10
          replace q10:=eq_true q10
          go_wp2
          repeat(go_quiet (fail);try go_wp2)
          go_roundg kj2
          case measure=>have:=HK1.out;have:=HJ2.out;omega
          case rel=>exact⟨(wrap64 (x5_1 + 1)),(by first|rfl|(simp;done)|(simp[*];done)),H',⟨by have:=HK1.out;have:=HJ2.out;omega⟩,by repeat(first|exact Drawn0.refl _|apply Drawn0.step)⟩
         ·rw[if_neg c11] at H
          have c11b0:((bt a0 x5_1) == (bt a1 x5_1))=false:=beq_eq_false_iff_ne.mpr c11
          have c11b1:((bt a0 x5_1) != (bt a1 x5_1))=true:=bne_iff_ne.mpr c11
          replace H:=jq8.mp H
          obtain⟨t101,A140,H⟩:=H
          replace H:(some t101)=some r:=H
          have A14:=U.mk A140
          clear A140
          obtain rfl:=Option.some.inj H
          have p8 : 0≤(x5_1:Int):=of_decide_eq_true (by assumption)
          have q8:x5_1 < (a0.size:Int):=of_decide_eq_true (by assumption)
          have hx8:=bt_at a0 x5_1
          replace p8:=eq_true p8
          replace q8:=eq_true q8
          have p10 : 0≤(x5_1:Int):=of_decide_eq_true (by assumption)
          have q10:x5_1 < (a1.size:Int):=of_decide_eq_true (by assumption)
          have hx10:=bt_at a1 x5_1
          replace p10:=eq_true p10
          replace q10:=eq_true q10
          have p12 : 0≤(x5_1:Int):=of_decide_eq_true (by assumption)
          have q12:x5_1 < (a0.size:Int):=of_decide_eq_true (by assumption)
          have hx12:=bt_at a0 x5_1
          replace p12:=eq_true p12
          replace q12:=eq_true q12
          have p13 : 0≤(x5_1:Int):=of_decide_eq_true (by assumption)
          have q13:x5_1 < (a1.size:Int):=of_decide_eq_true (by assumption)
          have hx13:=bt_at a1 x5_1
          replace p13:=eq_true p13
          replace q13:=eq_true q13
          go_wp2_with (first|(go_at_call 143;(with_reducible refine(qzw.calls (wrap64 (bt a0 x5_1)) (wrap64 (bt a1 x5_1)) t101 _ A14.out).mono ?_);rintro e w' ⟨rfl,⟨nd,rfl⟩⟩;(try first|exact⟨rfl,_,World.drewN_drewN _ _ _⟩|exact⟨rfl,_,Eq.trans (World.drewN_drewN _ _ _) (congrArg (World.drewN _) (Nat.add_assoc _ _ _))⟩)))
          repeat(go_quiet (first|(go_at_call 143;(with_reducible refine(qzw.calls (wrap64 (bt a0 x5_1)) (wrap64 (bt a1 x5_1)) t101 _ A14.out).mono ?_);rintro e w' ⟨rfl,⟨nd,rfl⟩⟩;(try first|exact⟨rfl,_,World.drewN_drewN _ _ _⟩|exact⟨rfl,_,Eq.trans (World.drewN_drewN _ _ _) (congrArg (World.drewN _) (Nat.add_assoc _ _ _))⟩)));try go_wp2_with (first|(go_at_call 143;(with_reducible refine(qzw.calls (wrap64 (bt a0 x5_1)) (wrap64 (bt a1 x5_1)) t101 _ A14.out).mono ?_);rintro e w' ⟨rfl,⟨nd,rfl⟩⟩;(try first|exact⟨rfl,_,World.drewN_drewN _ _ _⟩|exact⟨rfl,_,Eq.trans (World.drewN_drewN _ _ _) (congrArg (World.drewN _) (Nat.add_assoc _ _ _))⟩))))
          go_ret
          exact⟨by first|rfl|(simp;done)|(simp[*];done),by repeat(first|exact Drawn0.refl _|apply Drawn0.step)⟩
        ·rw[if_neg c9] at H
         exact absurd H (by simp)
       ·rw[if_neg c7] at H
        exact absurd H (by simp)
      ·rw[if_neg c6] at H
       exact absurd H (by simp)
     ·replace c5:=jq9.mpr c5
      subst c5
      have H1:((qzw.f (a0.size:Int) (a1.size:Int)).bind fun t102=>(some t102))=some r:=by rw[if_neg (show ¬ (false=true) by decide)] at H;exact H
      clear H
      have H:=H1
      clear H1
      replace H:=jq8.mp H
      obtain⟨t102,A150,H⟩:=H
      replace H:(some t102)=some r:=H
      have A15:=U.mk A150
      clear A150
      obtain rfl:=Option.some.inj H
      go_wp2_with (first|(go_at_call 143;(with_reducible refine(qzw.calls (a0.size:Int) (a1.size:Int) t102 _ A15.out).mono ?_);rintro e w' ⟨rfl,⟨nd,rfl⟩⟩;(try first|exact⟨rfl,_,World.drewN_drewN _ _ _⟩|exact⟨rfl,_,Eq.trans (World.drewN_drewN _ _ _) (congrArg (World.drewN _) (Nat.add_assoc _ _ _))⟩)))
      repeat(go_quiet (first|(go_at_call 143;(with_reducible refine(qzw.calls (a0.size:Int) (a1.size:Int) t102 _ A15.out).mono ?_);rintro e w' ⟨rfl,⟨nd,rfl⟩⟩;(try first|exact⟨rfl,_,World.drewN_drewN _ _ _⟩|exact⟨rfl,_,Eq.trans (World.drewN_drewN _ _ _) (congrArg (World.drewN _) (Nat.add_assoc _ _ _))⟩)));try go_wp2_with (first|(go_at_call 143;(with_reducible refine(qzw.calls (a0.size:Int) (a1.size:Int) t102 _ A15.out).mono ?_);rintro e w' ⟨rfl,⟨nd,rfl⟩⟩;(try first|exact⟨rfl,_,World.drewN_drewN _ _ _⟩|exact⟨rfl,_,Eq.trans (World.drewN_drewN _ _ _) (congrArg (World.drewN _) (Nat.add_assoc _ _ _))⟩))))
      go_ret
      exact⟨by first|rfl|(simp;done)|(simp[*];done),by repeat(first|exact Drawn0.refl _|apply Drawn0.step)⟩
end Go.Proofs.Ytccbjchlcelkgaa.Pr
namespace Go.Proofs.Ytccbjchlcelkgaa.Pr
open Go.RowKit Go.Proofs.Ytccbjchlcelkgaa.Read Go.Proofs.YtccbjchlcelkgaaW.PrintWords
set_option linter.unusedVariables false
def cmpB:List UInt8→List UInt8→Int
 | [],[]=>0
 | [],_ :: _=>-1
 | _ :: _,[]=>1
 | a :: x,b :: y=>if a.toNat=b.toNat then cmpB x y else if a.toNat < b.toNat then -1 else 1
theorem cmpB_vals:∀ x y:List UInt8,cmpB x y = -1∨cmpB x y=0∨cmpB x y=1
 | [],[]=>.inr (.inl rfl)
 | [],_ :: _=>.inl rfl
 | _ :: _,[]=>.inr (.inr rfl)
 | a :: x,b :: y=>by
  unfold cmpB
  split
  ·exact cmpB_vals x y
  ·split
   ·exact .inl rfl
   ·exact .inr (.inr rfl)
theorem cmpB_less:∀ x y:List UInt8,Op.bytesLess x y=decide (cmpB x y < 0)
 | [],[]=>by unfold Op.bytesLess cmpB;rfl
 | [],_ :: _=>by unfold Op.bytesLess cmpB;rfl
 | _ :: _,[]=>by unfold Op.bytesLess cmpB;rfl
 | a :: x,b :: y=>by
  unfold Op.bytesLess cmpB
  by_cases h:a.toNat=b.toNat
  ·obtain rfl:a=b:=UInt8.toNat_inj.1 h
   rw[if_pos rfl,cmpB_less x y]
   have h2:decide (a < a)=false:=decide_eq_false (by rw[UInt8.lt_iff_toNat_lt];omega)
   rw[h2]
   simp
  ·have hne:(a == b)=false:=by rw[beq_eq_false_iff_ne];intro e;exact h (by rw[e])
   rw[if_neg h,hne,Bool.false_and,Bool.or_false]
   by_cases h3:a.toNat < b.toNat
   ·rw[if_pos h3,decide_eq_true (UInt8.lt_iff_toNat_lt.2 h3)];rfl
   ·rw[if_neg h3,decide_eq_false (fun e=>h3 (UInt8.lt_iff_toNat_lt.1 e))];rfl
theorem bt_list (s:ByteArray) (i:Nat) (h:i < s.size):∃ hl:i < s.toList.length,bt s (i:Int)=(s.toList[i].toNat:Int):=by
 have hl:i < s.toList.length:=by rw[ByteArray.toList_eq,data_length];exact h
 refine⟨hl,?_⟩
 unfold bt
 simp only[Int.toNat_natCast,dif_pos h]
 simp only[ByteArray.toList_eq]
 rfl
theorem toList_len (s:ByteArray):s.toList.length=s.size:=by rw[ByteArray.toList_eq,data_length]
theorem cmpT_l0 (a b:ByteArray) (ha:a.size≤4611686018427387904) (hb:b.size≤4611686018427387904) (d:Nat):∀ (k i:Nat),i + d=a.size→i≤b.size→2 * d + 2≤k→qzx.l0 k a b (i:Int)=some (cmpB (a.toList.drop i) (b.toList.drop i)):=by
 induction d with
 | zero =>
  intro k i hi hib hk
  obtain⟨k,rfl⟩ : ∃ m,k=m + 2:=⟨k - 2,by omega⟩
  have e1:a.toList.drop i=[]:=List.drop_of_length_le (by rw[toList_len];omega)
  simp only[qzx.l0]
  rw[if_neg (by omega)]
  simp only[qzx.j1,qzw.f,if_neg (show ¬ (false=true) by decide)]
  rw[e1]
  by_cases hlt:i < b.size
  ·rw[if_pos (by omega),List.drop_eq_getElem_cons (by rw[toList_len];exact hlt)]
   rfl
  ·rw[if_neg (by omega),if_neg (by omega),show b.toList.drop i=[] from List.drop_of_length_le (by rw[toList_len];omega)]
   rfl
 | succ d ih =>
  intro k i hi hib hk
  obtain⟨k,rfl⟩ : ∃ m,k=m + 2:=⟨k - 2,by omega⟩
  obtain⟨hl,eb⟩:=bt_list a i (by omega)
  simp only[qzx.l0]
  rw[if_pos (by omega),List.drop_eq_getElem_cons hl]
  by_cases hlt:i < b.size
  ·obtain⟨hl2,eb2⟩:=bt_list b i hlt
   rw[List.drop_eq_getElem_cons hl2]
   simp only[qzx.j1,decide_eq_true (show(i:Int) < (b.size:Int) by omega),if_true]
   rw[if_pos (by omega),if_pos (by omega),if_pos (by omega),eb,eb2]
   unfold cmpB
   have h1:a.toList[i].toNat < 256:=UInt8.toNat_lt _
   have h2:b.toList[i].toNat < 256:=UInt8.toNat_lt _
   by_cases he:a.toList[i].toNat=b.toList[i].toNat
   ·rw[if_pos (by omega),if_pos he,show wrap64 ((i:Int) + 1)=((i + 1:Nat):Int) from by rw[w64 (by omega) (by omega)];rfl]
    exact ih k (i + 1) (by omega) (by omega) (by omega)
   ·rw[if_neg (by omega),if_neg he,w64 (by omega) (by omega),w64 (by omega) (by omega)]
    unfold qzw.f
    by_cases h3:a.toList[i].toNat < b.toList[i].toNat
    ·rw[if_pos (by omega),if_pos h3];rfl
    ·rw[if_neg (by omega),if_neg h3,if_pos (by omega)];rfl
  ·have e2:b.toList.drop i=[]:=List.drop_of_length_le (by rw[toList_len];omega)
   rw[e2]
   simp only[qzx.j1,decide_eq_false (show ¬ (i:Int) < (b.size:Int) by omega),if_neg (show ¬ (false=true) by decide)]
   unfold qzw.f cmpB
   rw[if_neg (by omega),if_pos (by omega)]
   rfl
def cmpT (a b:ByteArray):Int:=cmpB a.toList b.toList
theorem cmpT_ev (a b:ByteArray) (ha:a.size≤4611686018427387904) (hb:b.size≤4611686018427387904):Ev (fun k=>qzx.f k a b) (cmpT a b):=by
 refine⟨2 * a.size + 2,fun k hk=>?_⟩
 have:=cmpT_l0 a b ha hb a.size k 0 (by omega) (by omega) hk
 simpa [qzx.f,cmpT] using this
theorem cmpT_less (a b:ByteArray):Op.bytesLess a.toList b.toList=decide (cmpT a b < 0):=cmpB_less _ _
theorem cmpB_eq:∀ x y:List UInt8,cmpB x y=0 ↔ x=y
 | [],[]=>by simp[cmpB]
 | [],_ :: _=>by simp[cmpB]
 | _ :: _,[]=>by simp[cmpB]
 | a :: x,b :: y=>by
  unfold cmpB
  by_cases h:a.toNat=b.toNat
  ·obtain rfl:a=b:=UInt8.toNat_inj.1 h
   rw[if_pos rfl,cmpB_eq x y]
   simp
  ·rw[if_neg h]
   have:a≠b:=fun e=>h (by rw[e])
   split <;> simp[this]
theorem cmpB_swap:∀ x y:List UInt8,cmpB y x = - cmpB x y
 | [],[]=>rfl
 | [],_ :: _=>rfl
 | _ :: _,[]=>rfl
 | a :: x,b :: y=>by
  unfold cmpB
  by_cases h:a.toNat=b.toNat
  ·rw[if_pos h,if_pos h.symm,cmpB_swap x y]
  ·rw[if_neg h,if_neg (fun e=>h e.symm)]
   by_cases h2:a.toNat < b.toNat
   ·rw[if_pos h2,if_neg (by omega)];rfl
   ·rw[if_neg h2,if_pos (by omega)]
theorem cmpB_trans:∀ x y z:List UInt8,cmpB x y < 0→cmpB y z < 0→cmpB x z < 0
 | [],[],_,h,_=>by simp[cmpB] at h
 | _ :: _,[],_,h,_=>by simp[cmpB] at h
 | _,_ :: _,[],_,h=>by simp[cmpB] at h
 | [],_ :: _,_ :: _,_,_=>by simp[cmpB]
 | a :: x,b :: y,c :: z,h1,h2=>by
  unfold cmpB at h1 h2 ⊢
  by_cases e1:a.toNat=b.toNat
  ·rw[if_pos e1] at h1
   by_cases e2:b.toNat=c.toNat
   ·rw[if_pos e2] at h2
    rw[if_pos (by omega)]
    exact cmpB_trans x y z h1 h2
   ·rw[if_neg e2] at h2
    rw[if_neg (by omega)]
    split at h2
    ·rw[if_pos (by omega)];omega
    ·omega
  ·rw[if_neg e1] at h1
   split at h1
   ·by_cases e2:b.toNat=c.toNat
    ·rw[if_neg (by omega),if_pos (by omega)];omega
    ·rw[if_neg e2] at h2
     split at h2
     ·rw[if_neg (by omega),if_pos (by omega)];omega
     ·omega
   ·omega
end Go.Proofs.Ytccbjchlcelkgaa.Pr
namespace Go.Proofs.Ytccbjchlcelkgaa.Pr
open Go.RowKit Go.Proofs.YtccbjchlcelkgaaW.PrintWords Go.Proofs.YtccbjchlcelkgaaW.PrintLast Go.Proofs.YtccbjchlcelkgaaW.PrintMore
attribute [local go_sem] max2_int min2_int max_two min_two max_three min_three max_four min_four
set_option linter.unusedVariables false
set_option linter.unusedSimpArgs false
def cmp_isNaN_string.f (a0:ByteArray):Option (Bool):=some (a0.toList != a0.toList)
theorem cmp_isNaN_string.calls (a0:ByteArray) (r:Bool) (w:World) (h:cmp_isNaN_string.f a0=some r) :
  Calls Try.prog 178 #[.string a0] w fun e w'=>e=.returned (.bool r)∧Drawn0 w w':=by
 have H:(some (a0.toList != a0.toList))=some r:=h
 clear h
 obtain rfl:=Option.some.inj H
 go_enter Try.func178,Try.ntmps178
 go_wp2
 go_ret
 exact⟨by first|rfl|(simp;done)|(simp[*];done),by repeat(first|exact Drawn0.refl _|apply Drawn0.step)⟩
end Go.Proofs.Ytccbjchlcelkgaa.Pr
namespace Go.Proofs.Ytccbjchlcelkgaa.Pr
open Go.RowKit Go.Proofs.YtccbjchlcelkgaaW.PrintWords Go.Proofs.YtccbjchlcelkgaaW.PrintLast Go.Proofs.YtccbjchlcelkgaaW.PrintMore
set_option linter.unusedVariables false
set_option linter.unusedSimpArgs false
def cmpS (a b:ByteArray):Int:=if Op.bytesLess a.toList b.toList=true then -1 else if (!(Op.bytesLess a.toList b.toList || a.toList == b.toList))=true then 1 else 0
def cmp_Compare_string.f (a0:ByteArray) (a1:ByteArray):Option Int:=some (cmpS a0 a1)
set_option maxHeartbeats 1000000 in
theorem cmp_Compare_string.calls (a0:ByteArray) (a1:ByteArray) (r:Int) (w:World) (h:cmp_Compare_string.f a0 a1=some r) :
  Calls Try.prog 142 #[.string a0,.string a1] w fun e w'=>e=.returned (.int .i64 r)∧Drawn0 w w':=by
 obtain rfl:=Option.some.inj h
 clear h
 have hN:=fun (s:ByteArray) (W':World)=>cmp_isNaN_string.calls s false W' (by unfold cmp_isNaN_string.f;rw[bne_self_eq_false])
 by_cases hl:Op.bytesLess a0.toList a1.toList=true
 ·rw[show cmpS a0 a1 = -1 from by unfold cmpS;rw[if_pos hl]]
  go_enter Try.func142,Try.ntmps142
  go_wp2_with (go_at_call 178;refine(hN _ _).mono ?_;rintro e w' ⟨rfl,nd,rfl⟩)
  go_ret
  exact⟨rfl,by repeat(first|exact Drawn0.refl _|apply Drawn0.step)⟩
 have hl0:Op.bytesLess a0.toList a1.toList=false:=jq9.2 hl
 by_cases he:(a0.toList == a1.toList)=true
 ·rw[show cmpS a0 a1=0 from by unfold cmpS;rw[if_neg hl,hl0,he];rfl]
  go_enter Try.func142,Try.ntmps142
  go_wp2_with (go_at_call 178;refine(hN _ _).mono ?_;rintro e w' ⟨rfl,nd,rfl⟩)
  go_ret
  exact⟨rfl,by repeat(first|exact Drawn0.refl _|apply Drawn0.step)⟩
 ·have he0:(a0.toList == a1.toList)=false:=jq9.2 he
  rw[show cmpS a0 a1=1 from by unfold cmpS;rw[if_neg hl,hl0,he0];rfl]
  go_enter Try.func142,Try.ntmps142
  go_wp2_with (go_at_call 178;refine(hN _ _).mono ?_;rintro e w' ⟨rfl,nd,rfl⟩)
  go_ret
  exact⟨rfl,by repeat(first|exact Drawn0.refl _|apply Drawn0.step)⟩
end Go.Proofs.Ytccbjchlcelkgaa.Pr
namespace Go.Proofs.Ytccbjchlcelkgaa.Pr
open Go.RowKit Go.Proofs.Ytccbjchlcelkgaa.Read Go.Proofs.YtccbjchlcelkgaaW.PrintWords
set_option linter.unusedVariables false
def lexO (p q:Int):Int:=if p=0 then q else p
def cmpI (a b:Int):Int:=if a < b then -1 else if a > b then 1 else 0
theorem cmpS_eq (a b:ByteArray):cmpS a b=cmpT a b:=by
 unfold cmpS
 rw[cmpT_less]
 have hv:=cmpB_vals a.toList b.toList
 have he:=cmpB_eq a.toList b.toList
 unfold cmpT
 generalize cmpB a.toList b.toList=c at hv he
 rcases hv with rfl|rfl|rfl
 ·rfl
 ·have e:(a.toList == b.toList)=true:=by rw[he.1 rfl];exact beq_self_eq_true _
  rw[e];rfl
 ·have e:(a.toList == b.toList)=false:=by
   refine jq9.2 (fun h=>?_)
   have:=he.2 (eq_of_beq h)
   omega
  rw[e];rfl
def cmpA (x y:AtmT):Int:=lexO (cmpI x.f0 y.f0) (lexO (cmpI x.f1 y.f1) (lexO (cmpT x.f3 y.f3) (cmpT x.f2 y.f2)))
def G3 (p q r:Int):Prop:=(p=0→r=q)∧(q=0→r=p)∧(p < 0→q < 0→r < 0)
theorem G3_lex {p q r p' q' r':Int} (h:G3 p q r) (h':G3 p' q' r'):G3 (lexO p p') (lexO q q') (lexO r r'):=by
 obtain⟨h1,h2,h3⟩:=h
 obtain⟨g1,g2,g3⟩:=h'
 unfold lexO G3
 by_cases hp:p=0
 ·have e1:=h1 hp
  by_cases hq:q=0
  ·rw[if_pos hp,if_pos hq,if_pos (by omega)]
   exact⟨g1,g2,g3⟩
  ·rw[if_pos hp,if_neg hq,if_neg (by omega)]
   exact⟨fun _=>e1,fun h=>absurd h hq,fun _ h=>by omega⟩
 ·by_cases hq:q=0
  ·have e2:=h2 hq
   rw[if_neg hp,if_pos hq,if_neg (by omega)]
   exact⟨fun h=>absurd h hp,fun _=>e2,fun h _=>by omega⟩
  ·rw[if_neg hp,if_neg hq]
   refine⟨fun h=>absurd h hp,fun h=>absurd h hq,fun a b=>?_⟩
   have:=h3 a b
   rw[if_neg (by omega)]
   exact this
theorem G3_I (a b c:Int):G3 (cmpI a b) (cmpI b c) (cmpI a c):=by
 unfold G3 cmpI
 refine⟨?_,?_,?_⟩ <;> (repeat' split) <;> omega
theorem G3_T (a b c:ByteArray):G3 (cmpT a b) (cmpT b c) (cmpT a c):=by
 refine⟨fun h=>?_,fun h=>?_,fun h1 h2=>cmpB_trans _ _ _ h1 h2⟩
 ·unfold cmpT at *
  rw[(cmpB_eq _ _).1 h]
 ·unfold cmpT at *
  rw[(cmpB_eq _ _).1 h]
theorem G3_A (x y z:AtmT):G3 (cmpA x y) (cmpA y z) (cmpA x z):=G3_lex (G3_I _ _ _) (G3_lex (G3_I _ _ _) (G3_lex (G3_T _ _ _) (G3_T _ _ _)))
theorem lexO_neg (p q:Int):lexO (-p) (-q) = - lexO p q:=by
 unfold lexO
 by_cases h:p=0
 ·rw[if_pos h,if_pos (by omega)]
 ·rw[if_neg h,if_neg (by omega)]
theorem cmpI_swap (a b:Int):cmpI b a = - cmpI a b:=by unfold cmpI;(repeat' split) <;> omega
theorem cmpA_swap (x y:AtmT):cmpA y x = - cmpA x y:=by
 unfold cmpA
 rw[cmpI_swap x.f0 y.f0,cmpI_swap x.f1 y.f1,show cmpT y.f3 x.f3 = - cmpT x.f3 y.f3 from cmpB_swap _ _,show cmpT y.f2 x.f2 = - cmpT x.f2 y.f2 from cmpB_swap _ _,lexO_neg,lexO_neg,lexO_neg]
theorem vv {a b:ByteArray} (h:a.toList=b.toList):a=b:=by
 rw[ByteArray.toList_eq,ByteArray.toList_eq] at h
 exact ByteArray.ext (Array.toList_inj.1 h)
theorem lexO_zero {p q:Int} (h:lexO p q=0):p=0∧q=0:=by
 unfold lexO at h
 by_cases hp:p=0
 ·rw[if_pos hp] at h;exact⟨hp,h⟩
 ·rw[if_neg hp] at h;exact absurd h hp
theorem cmpI_zero {a b:Int} (h:cmpI a b=0):a=b:=by
 unfold cmpI at h
 split at h
 ·omega
 ·split at h <;> omega
theorem cmpA_zero {x y:AtmT} (h:cmpA x y=0):x=y:=by
 obtain⟨h0,h⟩:=lexO_zero h
 obtain⟨h1,h⟩:=lexO_zero h
 obtain⟨h3,h2⟩:=lexO_zero h
 have e0:=cmpI_zero h0
 have e1:=cmpI_zero h1
 have e3:=vv ((cmpB_eq _ _).1 h3)
 have e2:=vv ((cmpB_eq _ _).1 h2)
 cases x;cases y
 simp only at e0 e1 e2 e3
 subst e0;subst e1;subst e2;subst e3
 rfl
theorem cmpA_refl (x:AtmT):cmpA x x=0:=by
 have:=cmpA_swap x x
 omega
theorem cmpA_swo:Go.Sort.SWO (ltOf cmpA) where
 irrefl x:=by unfold ltOf;rw[cmpA_refl];rfl
 trans x y z h1 h2:=by
  unfold ltOf at *
  exact decide_eq_true ((G3_A x y z).2.2 (of_decide_eq_true h1) (of_decide_eq_true h2))
 ntrans x y z h1 h2:=by
  unfold ltOf at *
  have h1:=of_decide_eq_false h1
  have h2:=of_decide_eq_false h2
  refine decide_eq_false (fun h3=>?_)
  have s:=cmpA_swap x y
  have g:=G3_A y x z
  by_cases hz:cmpA y x=0
  ·have:=g.1 hz
   omega
  ·have:=g.2.2 (by omega) h3
   omega
theorem cmpA_total (x y:AtmT) (h1:ltOf cmpA x y=false) (h2:ltOf cmpA y x=false):x=y:=by
 unfold ltOf at *
 have h1:=of_decide_eq_false h1
 have h2:=of_decide_eq_false h2
 have s:=cmpA_swap x y
 exact cmpA_zero (by omega)
end Go.Proofs.Ytccbjchlcelkgaa.Pr
namespace Go.Proofs.Ytccbjchlcelkgaa.Pr
open Go.RowKit Go.Proofs.YtccbjchlcelkgaaW.PrintWords Go.Proofs.YtccbjchlcelkgaaW.PrintLast Go.Proofs.YtccbjchlcelkgaaW.PrintMore
attribute [local go_sem] max2_int min2_int max_two min_two max_three min_three max_four min_four
set_option linter.unusedVariables false
set_option linter.unusedSimpArgs false
theorem eqA34 (d:Nat) (w:World) (x0 y0:Int) (x1 y1:Int) (x2 y2:ByteArray) (x3 y3:ByteArray) :
  (Op.equalIn (d + 2) 34 (.agg #[.int .i64 x0,.int .i64 x1,.string x2,.string x3]) (.agg #[.int .i64 y0,.int .i64 y1,.string y2,.string y3])).run Try.prog w=.ok (x0 == y0 && (x1 == y1 && (x2.toList == y2.toList && (x3.toList == y3.toList)))) w:=by
 refine eqA_of Try.underlying34 (by kernel_rfl) ?_
 refine eqf_cons (by rfl) (by go_simp;rfl) (by go_simp;rfl) (by go_simp) ?_
 refine eqf_cons (by rfl) (by go_simp;rfl) (by go_simp;rfl) (by go_simp) ?_
 refine eqf_cons (by rfl) (by go_simp;rfl) (by go_simp;rfl) (by go_simp) ?_
 exact eqf_last (by rfl) (by go_simp;rfl) (by go_simp;rfl) (by go_simp)
end Go.Proofs.Ytccbjchlcelkgaa.Pr
namespace Go.Proofs.Ytccbjchlcelkgaa.Pr
open Go.RowKit Go.Proofs.YtccbjchlcelkgaaW.PrintWords Go.Proofs.YtccbjchlcelkgaaW.PrintLast Go.Proofs.YtccbjchlcelkgaaW.PrintMore Go.Lib
open Go.Sort (HoldsK Holds flatK size_flatK get_flatK putRowK putRow setMany size_setMany get_setMany setCells_putRow)
attribute [local go_sem high] eqA34
set_option linter.unusedVariables false
set_option linter.unusedSimpArgs false
instance:DecidableEq AtmT:=fun a b=>decidable_of_iff (cmpA a b=0) ⟨cmpA_zero,fun h=>by rw[h];exact cmpA_refl b⟩
def sameA (x y:AtmT):Bool:=x.f0 == y.f0 && (x.f1 == y.f1 && (x.f2.toList == y.f2.toList && x.f3.toList == y.f3.toList))
theorem sameA_iff (x y:AtmT):sameA x y=true ↔ x=y:=by
 unfold sameA
 simp only[Bool.and_eq_true,beq_iff_eq]
 constructor
 ·rintro ⟨h0,h1,h2,h3⟩
  have e2:=vv h2
  have e3:=vv h3
  cases x;cases y
  simp only at h0 h1 e2 e3
  subst h0;subst h1;subst e2;subst e3
  rfl
 ·rintro rfl
  exact⟨rfl,rfl,rfl,rfl⟩
theorem sameA_not (x y:AtmT):(!(x.f0 == y.f0) || (!(x.f1 == y.f1) || (!(x.f2.toList == y.f2.toList) || !(x.f3.toList == y.f3.toList)))) = !sameA x y:=by
 unfold sameA
 simp only[Bool.not_and]
theorem atm_cells {W:World} {g:Nat} {d:Array AtmT} (h:HoldsK encAtm 4 W g 0 d) (i:Nat) (hi:i < d.size) :
  (W.cell? ⟨g,i * 4,none⟩ = some (.int .i64 d[i]!.f0)∧W.cell? ⟨g,i * 4 + 1,none⟩ = some (.int .i64 d[i]!.f1)∧W.cell? ⟨g,i * 4 + 2,none⟩ = some (.string d[i]!.f2)∧W.cell? ⟨g,i * 4 + 3,none⟩ = some (.string d[i]!.f3)) ∧
  (W.frozen? ⟨g,i * 4,none⟩ = false∧W.frozen? ⟨g,i * 4 + 1,none⟩ = false∧W.frozen? ⟨g,i * 4 + 2,none⟩ = false∧W.frozen? ⟨g,i * 4 + 3,none⟩ = false):=by
 have hc:∀ c,c < 4→W.cell? ⟨g,i * 4 + c,none⟩ = some ((encAtm d[i]!)[c]!)∧W.frozen? ⟨g,i * 4 + c,none⟩ = false:=by
  intro c hc
  have ht:i * 4 + c < d.size * 4:=by omega
  obtain⟨h1,h2⟩:=h (i * 4 + c) (by rw[size_flatK];exact ht)
  rw[Nat.zero_add] at h1 h2
  refine⟨?_,h2⟩
  rw[h1,get_flatK _ _ _ _ ht,show(i * 4 + c) / 4=i by omega,show(i * 4 + c) % 4=c by omega]
  rfl
 exact⟨⟨(hc 0 (by omega)).1,(hc 1 (by omega)).1,(hc 2 (by omega)).1,(hc 3 (by omega)).1⟩,(hc 0 (by omega)).2,(hc 1 (by omega)).2,(hc 2 (by omega)).2,(hc 3 (by omega)).2⟩
theorem atm_store {W:World} {g:Nat} {dk:Array AtmT} (kk:Nat) (u:AtmT) (hk:kk < dk.size) :
  (putRowK encAtm 4 W g 0 dk).setCells g (kk * 4) (encAtm u)=putRowK encAtm 4 W g 0 (dk.setIfInBounds kk u):=by
 unfold putRowK
 have:=setCells_putRow W g 0 (encAtm u) (kk * 4) (flatK encAtm 4 dk) (by rw[encAtm_len,size_flatK];omega)
 rw[Nat.zero_add] at this
 rw[this]
 congr 1
 apply Array.ext
 ·simp[size_flatK]
 ·intro t h1 h2
  have ht:t < dk.size * 4:=by simpa [size_flatK] using h1
  rw[← getElem!_pos _ t h1,← getElem!_pos _ t h2,get_setMany _ _ _ _ (by rw[size_flatK];exact ht),get_flatK encAtm 4 dk t ht,get_flatK encAtm 4 (dk.setIfInBounds kk u) t (by simpa using ht),encAtm_len]
  by_cases hr:kk * 4≤t∧t < kk * 4 + 4
  ·rw[if_pos hr]
   have e:t / 4=kk:=by omega
   have e2:t % 4=t - kk * 4:=by omega
   rw[e,e2]
   have:(dk.setIfInBounds kk u)[kk]! = u:=Go.Sort.getElem!_set_same dk kk u hk
   rw[this]
  ·rw[if_neg hr]
   have e:t / 4≠kk:=by omega
   have:(dk.setIfInBounds kk u)[t / 4]! = dk[t / 4]!:=by
    simp[Array.getElem!_eq_getD,Array.getD_eq_getD_getElem?,Array.getElem?_setIfInBounds,Ne.symm e]
   rw[this]
def zerosA (n:Nat):List Value:=(Builtin.zeroCells #[.int .i64 0,.int .i64 0,.string ⟨#[]⟩,.string ⟨#[]⟩] n).toList
theorem zerosA_len (n:Nat):(zerosA n).length=n * 4:=by simp[zerosA,Builtin.zeroCells]
theorem zerosA_one (n:Nat):∀ v ∈ zerosA n,v.oneCell'=true:=by
 intro v hv
 unfold zerosA Builtin.zeroCells at hv
 simp only[Array.toList_map,List.mem_map] at hv
 obtain⟨i,_,rfl⟩:=hv
 have h4:i % 4 < 4:=Nat.mod_lt _ (by decide)
 show((#[Value.int .i64 0,.int .i64 0,.string ⟨#[]⟩,.string ⟨#[]⟩]:Array Value)[i % 4]!).oneCell'=true
 generalize i % 4=m at h4
 match m,h4 with
 | 0,_=>rfl
 | 1,_=>rfl
 | 2,_=>rfl
 | 3,_=>rfl
theorem clearA_run (W:World) (ty:TypeId) (g o n c:Nat) (hn : 0 < n) (hc:∀ j,j < n * 4→(W.cell? ⟨g,o + j,none⟩).isSome=true) (hf:∀ j,j < n * 4→W.frozen? ⟨g,o + j,none⟩ = false) :
  (Builtin.clear_ #[54] ty #[.slice (some ⟨g,o,none⟩) n c]).run Try.prog W=.ok (.tuple #[]) (W.setCells g o (zerosA n)):=by
 have hst:=run_storeCells_cells (P:=Try.prog) g o (zerosA n) 0 W (by rw[zerosA_len];simpa using hc) (by rw[zerosA_len];simpa using hf) (zerosA_one n)
 simp only[Nat.add_zero] at hst
 unfold zerosA at hst ⊢
 have hv:∀ w,(zeroValue 34).run Try.prog w=.ok (.agg #[.int .i64 0,.int .i64 0,.string ⟨#[]⟩,.string ⟨#[]⟩]) w:=Try.zeroValue34
 obtain⟨m,rfl⟩ : ∃ m,n=m + 1:=⟨n - 1,by omega⟩
 have hz:(Value.agg #[.int .i64 0,.int .i64 0,.string ⟨#[]⟩,.string ⟨#[]⟩]).cells = #[.int .i64 0,.int .i64 0,.string ⟨#[]⟩,.string ⟨#[]⟩]:=by kernel_rfl
 simp[Builtin.clear_,run_underlying Try.underlying54,hv,hz,hst]
set_option maxHeartbeats 4000000 in
set_option maxRecDepth 1000000 in
theorem atmCompact_calls (g cap:Nat) (d:Array AtmT) (w:World) (hH:HoldsK encAtm 4 w g 0 d) (hsz:d.size≤9223372036854775807) (hcap:d.size≤cap) :
  Calls Try.prog 93 #[.slice (some ⟨g,0,none⟩) d.size cap] w fun e w'=>e=.returned (.slice (some ⟨g,0,none⟩) (compactUpTo d d.size).length cap) ∧
   ∃ (q:Nat) (F:Array Value),w'=putRow id (Go.Sort.ahead w q) g 0 F∧F.size=d.size * 4∧∀ t,t < (compactUpTo d d.size).length * 4→F[t]! = (encAtm ((compactUpTo d d.size)[t / 4]!))[t % 4]!:=by
 have same:∀ q,(∀ j,j < d.size→keeps d j=true)→(compactUpTo d d.size).length=d.size∧∃ (q':Nat) (F:Array Value),w.drewN q=putRow id (Go.Sort.ahead w q') g 0 F∧F.size=d.size * 4∧∀ t,t < (compactUpTo d d.size).length * 4→F[t]! = (encAtm ((compactUpTo d d.size)[t / 4]!))[t % 4]!:=by
  intro q hall
  have e:compactUpTo d d.size=d.toList:=by rw[compactUpTo_all d _ hall,range_map_get]
  rw[e]
  refine⟨by simp,q,flatK encAtm 4 d,?_,size_flatK _ _ _,fun t ht=>?_⟩
  ·exact(Go.Sort.putRowK_self encAtm 4 (Go.Sort.ahead w q) g 0 d (Go.Sort.holdsK_ahead encAtm 4 w q g 0 d hH)).symm
  ·rw[get_flatK _ _ _ _ (by simpa using ht)]
   have e9:d.toList[t / 4]! = d[t / 4]!:=by simp[Array.getElem!_eq_getD,Array.getD_eq_getD_getElem?]
   rw[e9]
 have HS:=U.mk same
 clear same
 by_cases h2:d.size < 2
 ·clear hH
  go_enter Try.func93,Try.ntmps93
  go_wp2
  go_ret
  obtain⟨e1,e2⟩:=HS.out 0 (fun j hj=>keeps_lt_one d j (by omega))
  exact⟨by rw[e1];rfl,e2⟩
 ·have HH:=U.mk hH
  clear hH
  go_enter Try.func93,Try.ntmps93
  go_wp2
  go_loopg [3] d.size (fun gk s3 wr=>∃ k q:Nat,1≤k∧k≤d.size∧d.size - k≤gk∧s3=.int .i64 k∧wr=w.drewN q∧U (∀ j,j < k→keeps d j=true))
  case atStart=>exact⟨1,0,Nat.le_refl _,by omega,by omega,rfl,rfl,⟨keeps_lt_one d⟩⟩
  case round =>
   obtain⟨k,q,hk1,hk,hg,rfl,rfl,A⟩:=hrel
   by_cases hlt:k < d.size
   ·obtain⟨⟨a0,a1,a2,a3⟩,_⟩:=atm_cells HH.out k hlt
    obtain⟨⟨b0,b1,b2,b3⟩,_⟩:=atm_cells HH.out (k - 1) (by omega)
    generalize hx:d[k]! = x at a0 a1 a2 a3
    generalize hy:d[k - 1]! = y at b0 b1 b2 b3
    have B:=U.mk (show d[k]! = x∧d[k - 1]! = y from⟨hx,hy⟩)
    clear hx hy
    by_cases hdup:x=y
    ·have c1:(x.f0 == y.f0 && (x.f1 == y.f1 && (x.f2.toList == y.f2.toList && x.f3.toList == y.f3.toList)))=true:=(sameA_iff x y).2 hdup
     go_wp2
     repeat(go_quiet (fail);try go_wp2)
     clear a0 a1 a2 a3 b0 b1 b2 b3 c1
     go_loopg [3,5] d.size (fun gk s3 s5 wr=>∃ (kk k2 q2:Nat) (dk:Array AtmT),s3=.int .i64 kk∧s5=.int .i64 k2∧1≤k2∧k + k2≤d.size∧d.size - (k + k2)≤gk∧U (wr=putRowK encAtm 4 (Go.Sort.ahead w q2) g 0 dk)∧U (CompInv d (k + k2) kk dk))
     case atStart=>exact⟨k,1,_,d,rfl,rfl,Nat.le_refl _,by omega,by omega,⟨(Go.Sort.putRowK_self encAtm 4 (Go.Sort.ahead w (q + nq)) g 0 d (Go.Sort.holdsK_ahead encAtm 4 w (q + nq) g 0 d HH.out)).symm⟩,⟨CompInv.start A.out (keeps_neg (by omega) (by rw[B.out.1,B.out.2];exact hdup))⟩⟩
     case round =>
      obtain⟨kk,k2,q2,dk,rfl,rfl,h1,hle,hg2,W2,I2⟩:=hrel
      have hkk:=I2.out.lt
      have hds:=I2.out.size
      have hHk:HoldsK encAtm 4 wr g 0 dk:=by rw[W2.out];exact Go.Sort.holdsK_putRowK encAtm 4 _ g 0 d dk (Go.Sort.holdsK_ahead encAtm 4 w q2 g 0 d HH.out) hds
      by_cases hlt2:k + k2 < d.size
      ·obtain⟨⟨a0,a1,a2,a3⟩,_⟩:=atm_cells hHk (k + k2) (by omega)
       obtain⟨⟨b0,b1,b2,b3⟩,_⟩:=atm_cells hHk (k + k2 - 1) (by omega)
       obtain⟨⟨o0,o1,o2,o3⟩,f0,f1,f2,f3⟩:=atm_cells hHk kk (by omega)
       rw[show(k + k2) * 4=k * 4 + k2 * 4 by omega,I2.out.high (k + k2) (by omega)] at a0 a1 a2 a3
       rw[show(k + k2 - 1) * 4=k * 4 + (k2 - 1) * 4 by omega,I2.out.high (k + k2 - 1) (by omega)] at b0 b1 b2 b3
       clear hHk
       generalize hu:d[k + k2]! = u at a0 a1 a2 a3
       generalize hv:d[k + k2 - 1]! = v at b0 b1 b2 b3
       generalize dk[kk]! = old at o0 o1 o2 o3
       have C:=U.mk (show d[k + k2]! = u∧d[k + k2 - 1]! = v from⟨hu,hv⟩)
       clear hu hv
       by_cases huv:u=v
       ·have c2:(!(u.f0 == v.f0) || (!(u.f1 == v.f1) || (!(u.f2.toList == v.f2.toList) || !(u.f3.toList == v.f3.toList))))=false:=by rw[sameA_not,(sameA_iff u v).2 huv];rfl
        go_wp2
        repeat(go_quiet (fail);try go_wp2)
        go_roundg (d.size - (k + (k2 + 1)))
        case measure=>omega
        case rel=>exact⟨kk,k2 + 1,q2 + nq,dk,rfl,by go_num,by omega,by omega,Nat.le_refl _,⟨by rw[W2.out];exact Go.Sort.putRowK_drewN encAtm 4 w q2 nq g 0 dk⟩,⟨I2.out.skip (keeps_neg (by omega) (by rw[C.out.1,C.out.2];exact huv))⟩⟩
       ·have c2:(!(u.f0 == v.f0) || (!(u.f1 == v.f1) || (!(u.f2.toList == v.f2.toList) || !(u.f3.toList == v.f3.toList))))=true:=by rw[sameA_not];simp only[Bool.not_eq_true',jq9];exact fun h=>huv ((sameA_iff u v).1 h)
        go_wp2
        repeat(go_quiet (fail);try go_wp2)
        go_roundg (d.size - (k + (k2 + 1)))
        case measure=>omega
        case rel =>
         refine⟨kk + 1,k2 + 1,q2 + nq,dk.setIfInBounds kk u,by go_num,by go_num,by omega,by omega,Nat.le_refl _,⟨?_⟩,⟨?_⟩⟩
         ·rw[← atm_store kk u (by omega),← Go.Sort.putRowK_drewN encAtm 4 w q2 nq g 0 dk,← W2.out]
          rfl
         ·have hI:=I2.out.keep hlt2 (keeps_pos (by rw[C.out.1,C.out.2];exact huv))
          rw[C.out.1] at hI
          exact hI
      ·have hend:k + k2=d.size:=by omega
       have hcl:=fun ty=>clearA_run wr ty g (kk * 4) (d.size - kk) (cap - kk) (by omega) (fun j hj=>by have:=hHk (kk * 4 + j) (by rw[size_flatK];omega);rw[Nat.zero_add] at this;rw[this.1];rfl) (fun j hj=>by have:=hHk (kk * 4 + j) (by rw[size_flatK];omega);rw[Nat.zero_add] at this;exact this.2)
       clear hHk
       go_wp2
       go_ret
       have hI:=I2.out
       rw[hend] at hI
       have hst:=setCells_putRow (Go.Sort.ahead w q2) g 0 (zerosA (d.size - kk)) (kk * 4) (flatK encAtm 4 dk) (by rw[zerosA_len,size_flatK];omega)
       rw[Nat.zero_add] at hst
       refine⟨by rw[hI.len];rfl,q2,setMany (flatK encAtm 4 dk) (kk * 4) (zerosA (d.size - kk)),?_,by rw[size_setMany,size_flatK,hds],fun t ht=>?_⟩
       ·rw[← hst,W2.out];rfl
       ·rw[hI.len] at ht
        rw[get_setMany _ _ _ _ (by rw[size_flatK];omega),if_neg (by omega),get_flatK _ _ _ _ (by omega)]
        have hlow:=hI.low (t / 4) (by omega)
        have e9:(compactUpTo d d.size)[t / 4]! = dk[t / 4]!:=by rw[List.getElem!_eq_getElem?_getD,hlow];rfl
        rw[e9]
    ·have c1:(x.f0 == y.f0 && (x.f1 == y.f1 && (x.f2.toList == y.f2.toList && x.f3.toList == y.f3.toList)))=false:=jq9.2 (fun h=>hdup ((sameA_iff x y).1 h))
     go_wp2
     repeat(go_quiet (fail);try go_wp2)
     clear a0 a1 a2 a3 b0 b1 b2 b3 c1
     go_roundg (d.size - (k + 1))
     case measure=>omega
     case rel =>
      refine⟨k + 1,_,by omega,by omega,Nat.le_refl _,by go_num,rfl,⟨fun j hj=>?_⟩⟩
      by_cases e:j=k
      ·subst e
       exact keeps_pos (by rw[B.out.1,B.out.2];exact hdup)
      ·exact A.out j (by omega)
   ·have:k=d.size:=by omega
    subst this
    go_wp2
    go_ret
    obtain⟨e1,e2⟩:=HS.out q A.out
    exact⟨by rw[e1];rfl,e2⟩
theorem atm_backF {w:World} {base:Nat} {ok:Nat→Prop} {g cap:Nat} {cur F:Array Value} {l:List AtmT} (hg:base≤g) (hok:ok g) (hh:w.heap[g]? = some (.cells cur 34 (0,0))) (h1:l.length≤cap) (h2:cap≤maxLen) (h3:cur.size=cap * 4) (q:Nat) (hF:F.size≤cap * 4) (hl:l.length * 4≤F.size) (hv:∀ t,t < l.length * 4→F[t]! = (encAtm (l[t / 4]!))[t % 4]!) :
  Kd.R k34 34 (putRow id (Go.Sort.ahead w q) g 0 F) base ok (.slice (some ⟨g,0,none⟩) l.length cap) l:=by
 have hlaid:(putRow id (Go.Sort.ahead w q) g 0 F).heap[g]? = some (.cells (Sort.putCells id 0 F cur) 34 (0,0)):=by
  unfold Sort.putRow Sort.mapBlock
  show(w.heap.modify g _)[g]? = _
  rw[Array.getElem?_modify,if_pos rfl,hh]
  rfl
 have hs:(Sort.putCells id 0 F cur).size=cap * 4:=by unfold Sort.putCells;rw[Array.size_mapIdx];exact h3
 have hcell:∀ t,t < l.length * 4→(Sort.putCells id 0 F cur)[t]? = (encAtm l[t / 4]!)[t % 4]?:=by
  intro t ht
  have htc:t < cur.size:=by rw[h3];omega
  unfold Sort.putCells
  rw[Array.getElem?_mapIdx,Array.getElem?_eq_getElem htc]
  simp only[Option.map_some]
  rw[if_pos (show 0≤t∧t < 0 + F.size by omega),Nat.sub_zero,hv t ht]
  have e3:t % 4 < (encAtm l[t / 4]!).length:=by rw[encAtm_len];omega
  rw[List.getElem?_eq_getElem e3,getElem!_pos (encAtm l[t / 4]!) (t % 4) e3]
  rfl
 have hlen:((Sort.putCells id 0 F cur).toList.take (l.length * 4)).length=l.length * 4:=by
  have hz:(Sort.putCells id 0 F cur).toList.length=cap * 4:=by rw[Array.length_toList];exact hs
  rw[jq4,hz]
  exact Nat.min_eq_left (by omega)
 refine⟨fun k hk=>?_,(Sort.putCells id 0 F cur).toList.take (l.length * 4),⟨?_,.inr ⟨g,cap,_,rfl,hg,hlaid,h1,h2,hs,rfl⟩⟩,?_,fun j p hp=>?_⟩
 ·have:g=k:=by simpa [Value.ownBlock] using hk
  subst this
  exact hok
 ·exact hlen
 ·exact hlen
 ·have hj:j < l.length:=(List.getElem?_eq_some_iff.1 hp).1
  have hpe:l[j]! = p:=by rw[getElem!_pos l j hj];exact(List.getElem?_eq_some_iff.1 hp).2
  have e:(((Sort.putCells id 0 F cur).toList.take (l.length * 4)).drop (j * 4)).take 4=encAtm p:=by
   apply List.ext_getElem?
   intro c
   by_cases hc:c < 4
   ·rw[List.getElem?_take,if_pos hc,List.getElem?_drop,List.getElem?_take,if_pos (by omega),Array.getElem?_toList,hcell _ (by omega),show(j * 4 + c) / 4=j by omega,show(j * 4 + c) % 4=c by omega,hpe]
   ·rw[List.getElem?_take,if_neg hc]
    exact(List.getElem?_eq_none (by rw[encAtm_len];omega)).symm
  show k34.M _ _ _ p ((((Sort.putCells id 0 F cur).toList.take (l.length * 4)).drop (j * 4)).take 4)
  rw[e]
  exact k34_mkM _ _ _ p
set_option maxHeartbeats 1000000 in
theorem atmCompact_none (A:Option Addr) (c:Nat) (w:World) :
  Calls Try.prog 93 #[.slice A 0 c] w fun e w'=>e=.returned (.slice A 0 c)∧w'=w:=by
 go_enter Try.func93,Try.ntmps93
 go_wp2
 go_ret
 exact⟨rfl,rfl⟩
def compactA (l:List AtmT):List AtmT:=compactUpTo l.toArray l.length
theorem compactA_len (l:List AtmT):(compactA l).length≤l.length:=by
 unfold compactA compactUpTo
 rw[List.length_map]
 exact Nat.le_trans (List.length_filter_le _ _) (by rw[List.length_range];exact Nat.le_refl _)
def wq.f (l:List AtmT):Option (List AtmT):=some (compactA l)
theorem wq.calls (P0_:Nat→Prop) (u9000_:Value) (l0:List AtmT) (r1:List AtmT) (w0 w:World) (hB:Below w0.heap.size w0 w) (ho0:Kd.R k34 34 w w0.heap.size P0_ u9000_ l0) (h:wq.f l0=some r1) :
  Calls Try.prog 93 #[u9000_] w fun e w'=>∃ v0_:Value,e=.returned v0_∧Kd.R k34 34 w' w0.heap.size (fun k_=>(P0_ k_∨w.heap.size≤k_)) v0_ r1∧Below w0.heap.size w0 w'∧kj w w' (fun k_=>P0_ k_):=by
 obtain rfl:=Option.some.inj h
 by_cases hl:l0=[]
 ·subst hl
  obtain⟨A,c,rfl⟩:=Kd.R_slice ho0
  refine(atmCompact_none A c w).mono ?_
  rintro e w' ⟨rfl,rfl⟩
  exact⟨_,rfl,Kd.R_mono ho0 (fun k_ hk_=>.inl hk_),hB,Nat.le_refl _,fun i _ _=>rfl⟩
 obtain⟨g,cap,cur,rfl,hg,hok,hh,h1,h2,h3,h4⟩:=atm_open ho0 hl
 have hgl:g < w.heap.size:=(Array.getElem?_eq_some_iff.1 hh).1
 refine(atmCompact_calls g cap l0.toArray w (atm_holds hh h4) (by have:maxLen=9223372036854775807:=rfl;simp;omega) (by simpa using h1)).mono ?_
 rintro e w' ⟨rfl,q,F,rfl,hF,hv⟩
 have hto:compactUpTo l0.toArray l0.toArray.size=compactA l0:=rfl
 rw[hto] at hv ⊢
 have hlen:=compactA_len l0
 have hF2:F.size=l0.length * 4:=by rw[hF];simp
 have hF3:F.size≤cap * 4:=by rw[hF2];omega
 have hF4:(compactA l0).length * 4≤F.size:=by rw[hF2];omega
 have hsize:(putRow id (Go.Sort.ahead w q) g 0 F).heap.size=w.heap.size:=by
  unfold Sort.putRow Sort.mapBlock
  show(w.heap.modify g _).size=_
  simp
 have helse:∀ i,i < w.heap.size→i≠g→(putRow id (Go.Sort.ahead w q) g 0 F).heap[i]? = w.heap[i]?:=by
  intro i hi hne
  unfold Sort.putRow Sort.mapBlock
  show(w.heap.modify g _)[i]? = _
  rw[Array.getElem?_modify,if_neg (fun e=>hne e.symm)]
 refine⟨_,rfl,atm_backF hg (.inl hok) hh (Nat.le_trans hlen h1) h2 h3 q hF3 hF4 hv,?_,by rw[hsize];exact Nat.le_refl _,fun i hi hn=>helse i hi (fun e=>hn (e ▸ hok))⟩
 exact hB.trans ⟨rfl,rfl,rfl,by rw[hsize];exact Nat.le_refl _,fun i hi=>helse i (Nat.lt_of_lt_of_le hi hB.size) (by omega)⟩
end Go.Proofs.Ytccbjchlcelkgaa.Pr
namespace Go.Proofs.Ytccbjchlcelkgaa.Pr
open Go.RowKit Go.Proofs.YtccbjchlcelkgaaW.PrintWords Go.Proofs.YtccbjchlcelkgaaW.PrintLast Go.Proofs.YtccbjchlcelkgaaW.PrintMore
set_option linter.unusedVariables false
set_option linter.unusedSimpArgs false
set_option maxHeartbeats 1000000 in
theorem indexT122_calls (fn:Nat) (p:S122→Option Bool) (eg:Enters Try.prog fn) (hp:∀ (x:S122) (b:Bool) (W:World),p x=some b→Calls Try.prog fn #[.agg #[.string (x.f0),.string (x.f1)]] W fun e w'=>e=.returned (.bool b)∧Below W.heap.size W w')
  (A0:Option Addr) (c0:Nat) (l0:List S122) (r:Bool) (w:World) (hr0:Kd.C k122 w A0 l0.length l0) (h:anyO p l0=some r) :
  Calls Try.prog 179 #[.slice A0 l0.length c0,.func (.func fn) #[] #[]] w fun e w'=>∃ i:Int,e=.returned (.int .i64 i)∧decide (0≤i)=r∧Below w.heap.size w w':=by
 have hmax:=Kd.C_max hr0
 have HR0:=U.mk hr0
 have HM:=U.mk hmax
 have HP:=U.mk hp
 have HH:=U.mk h
 clear hr0 hmax hp h
 have e1:∀ (args:Array Value) (w:World),(callFunc fn args).run Try.prog w=.ok (.enter fn args) w:=eg
 go_enter Try.func179,Try.ntmps179
 go_wp2
 go_loopw [5,8] (fun v5 i W=>∃ k:Nat,k≤l0.length∧i=.int .i64 k∧U (anyO p (l0.drop k)=some r∧Below w.heap.size w W)) (fun _ i _=>l0.length - (intOf i).toNat)
 case atStart=>exact⟨0,by omega,rfl,⟨HH.out,by repeat(first|exact Below.refl _ _|apply below_drew|apply J)⟩⟩
 case round =>
  obtain⟨k,hk,rfl,HW⟩:=hrel
  have hmax:=HM.out
  by_cases hlt:k < l0.length
  ·obtain⟨ad,ead,hx0,hx1⟩:=at_T122 HR0.out (k:Int) (by omega) (by omega)
   cases ead
   replace hx0:=(HW.out.2.cell (World.block_lt_of_cell? w _ hx0)).trans hx0
   replace hx1:=(HW.out.2.cell (World.block_lt_of_cell? w _ hx1)).trans hx1
   obtain⟨b,hb,h1,h2⟩:=anyO_drop hlt HW.out.1
   have ex:vq l0 (k:Int)=l0[k]:=by simp[vq,List.getD_eq_getElem?_getD,List.getElem?_eq_getElem hlt]
   have HC:=U.mk (fun W=>HP.out l0[k] b W hb)
   clear hb
   rw[← ex] at HC
   clear ex
   generalize vq l0 (k:Int)=x at HC hx0 hx1
   rw[Int.toNat_natCast] at hx0 hx1
   cases b with
   | false =>
    have HB:=U.mk (h2 rfl)
    clear h1 h2
    go_wp2_with (go_at_fn fn;refine(HC.out _).mono ?_;rintro e w' ⟨rfl,hb⟩;have HD:=U.mk (zz (by repeat(first|exact HW.out.2|apply below_drew|apply J)) hb);clear hb)
    go_roundw
    case rel=>exact⟨k + 1,by omega,by go_num,⟨HB.out,by repeat(first|exact HD.out|apply below_drew|apply J)⟩⟩
    case measure=>simp[intOf];omega
   | true =>
    have HB:=U.mk (h1 rfl)
    clear h1 h2
    go_wp2_with (go_at_fn fn;refine(HC.out _).mono ?_;rintro e w' ⟨rfl,hb⟩;have HD:=U.mk (zz (by repeat(first|exact HW.out.2|apply below_drew|apply J)) hb);clear hb)
    go_ret
    exact⟨k,rfl,by rw[HB.out];exact decide_eq_true (by omega),by repeat(first|exact HD.out|apply below_drew|apply J)⟩
  ·obtain rfl:k=l0.length:=by omega
   rw[List.drop_length] at HW
   go_wp2
   go_ret
   exact⟨-1,rfl,by have:=Option.some.inj HW.out.1;rw[← this];rfl,by repeat(first|exact HW.out.2|apply below_drew|apply J)⟩
theorem containsT122_calls (fn:Nat) (p:S122→Option Bool) (eg:Enters Try.prog fn) (hp:∀ (x:S122) (b:Bool) (W:World),p x=some b→Calls Try.prog fn #[.agg #[.string (x.f0),.string (x.f1)]] W fun e w'=>e=.returned (.bool b)∧Below W.heap.size W w')
  (A0:Option Addr) (c0:Nat) (l0:List S122) (r:Bool) (w:World) (hr0:Kd.C k122 w A0 l0.length l0) (h:anyO p l0=some r) :
  Calls Try.prog 144 #[.slice A0 l0.length c0,.func (.func fn) #[] #[]] w fun e w'=>e=.returned (.bool r)∧Below w.heap.size w w':=by
 have C1:=U.mk (fun W (hW:Kd.C k122 W A0 l0.length l0)=>indexT122_calls fn p eg hp A0 c0 l0 r W hW h)
 have HR0:=U.mk hr0
 clear hr0 hp h eg
 go_enter Try.func144,Try.ntmps144
 go_wp2_with (go_at_call 179;refine(C1.out _ (by repeat(first|exact HR0.out|apply Kd.C_drewN|apply Kd.C_drew))).mono ?_;rintro e w' ⟨i,rfl,hi,hb⟩;have HD:=U.mk (zz (by repeat(first|exact Below.refl _ _|apply below_drew|apply J)) hb);clear hb)
 go_ret
 exact⟨by simp only[← hi];rfl,by repeat(first|exact HD.out|apply below_drew|apply J)⟩
end Go.Proofs.Ytccbjchlcelkgaa.Pr
namespace Go.Proofs.Ytccbjchlcelkgaa.Pr
open Go.RowKit Go.Proofs.YtccbjchlcelkgaaW.PrintWords Go.Proofs.YtccbjchlcelkgaaW.PrintLast Go.Proofs.YtccbjchlcelkgaaW.PrintMore
set_option linter.unusedVariables false
set_option linter.unusedSimpArgs false
set_option maxHeartbeats 1000000 in
theorem indexT34_calls (fn:Nat) (p:S34→Option Bool) (eg:Enters Try.prog fn) (hp:∀ (x:S34) (b:Bool) (W:World),p x=some b→Calls Try.prog fn #[.agg #[.int .i64 (x.f0),.int .i64 (x.f1),.string (x.f2),.string (x.f3)]] W fun e w'=>e=.returned (.bool b)∧Below W.heap.size W w')
  (A0:Option Addr) (c0:Nat) (l0:List S34) (r:Bool) (w:World) (hr0:Kd.C k34 w A0 l0.length l0) (h:anyO p l0=some r) :
  Calls Try.prog 137 #[.slice A0 l0.length c0,.func (.func fn) #[] #[]] w fun e w'=>∃ i:Int,e=.returned (.int .i64 i)∧decide (0≤i)=r∧Below w.heap.size w w':=by
 have hmax:=Kd.C_max hr0
 have HR0:=U.mk hr0
 have HM:=U.mk hmax
 have HP:=U.mk hp
 have HH:=U.mk h
 clear hr0 hmax hp h
 have e1:∀ (args:Array Value) (w:World),(callFunc fn args).run Try.prog w=.ok (.enter fn args) w:=eg
 go_enter Try.func137,Try.ntmps137
 go_wp2
 go_loopw [5,8] (fun v5 i W=>∃ k:Nat,k≤l0.length∧i=.int .i64 k∧U (anyO p (l0.drop k)=some r∧Below w.heap.size w W)) (fun _ i _=>l0.length - (intOf i).toNat)
 case atStart=>exact⟨0,by omega,rfl,⟨HH.out,by repeat(first|exact Below.refl _ _|apply below_drew|apply J)⟩⟩
 case round =>
  obtain⟨k,hk,rfl,HW⟩:=hrel
  have hmax:=HM.out
  by_cases hlt:k < l0.length
  ·obtain⟨ad,ead,hx0,hx1,hx2,hx3⟩:=at_T34 HR0.out (k:Int) (by omega) (by omega)
   cases ead
   replace hx0:=(HW.out.2.cell (World.block_lt_of_cell? w _ hx0)).trans hx0
   replace hx1:=(HW.out.2.cell (World.block_lt_of_cell? w _ hx1)).trans hx1
   replace hx2:=(HW.out.2.cell (World.block_lt_of_cell? w _ hx2)).trans hx2
   replace hx3:=(HW.out.2.cell (World.block_lt_of_cell? w _ hx3)).trans hx3
   obtain⟨b,hb,h1,h2⟩:=anyO_drop hlt HW.out.1
   have ex:vz l0 (k:Int)=l0[k]:=by simp[vz,List.getD_eq_getElem?_getD,List.getElem?_eq_getElem hlt]
   have HC:=U.mk (fun W=>HP.out l0[k] b W hb)
   clear hb
   rw[← ex] at HC
   clear ex
   generalize vz l0 (k:Int)=x at HC hx0 hx1 hx2 hx3
   rw[Int.toNat_natCast] at hx0 hx1 hx2 hx3
   cases b with
   | false =>
    have HB:=U.mk (h2 rfl)
    clear h1 h2
    go_wp2_with (go_at_fn fn;refine(HC.out _).mono ?_;rintro e w' ⟨rfl,hb⟩;have HD:=U.mk (zz (by repeat(first|exact HW.out.2|apply below_drew|apply J)) hb);clear hb)
    go_roundw
    case rel=>exact⟨k + 1,by omega,by go_num,⟨HB.out,by repeat(first|exact HD.out|apply below_drew|apply J)⟩⟩
    case measure=>simp[intOf];omega
   | true =>
    have HB:=U.mk (h1 rfl)
    clear h1 h2
    go_wp2_with (go_at_fn fn;refine(HC.out _).mono ?_;rintro e w' ⟨rfl,hb⟩;have HD:=U.mk (zz (by repeat(first|exact HW.out.2|apply below_drew|apply J)) hb);clear hb)
    go_ret
    exact⟨k,rfl,by rw[HB.out];exact decide_eq_true (by omega),by repeat(first|exact HD.out|apply below_drew|apply J)⟩
  ·obtain rfl:k=l0.length:=by omega
   rw[List.drop_length] at HW
   go_wp2
   go_ret
   exact⟨-1,rfl,by have:=Option.some.inj HW.out.1;rw[← this];rfl,by repeat(first|exact HW.out.2|apply below_drew|apply J)⟩
theorem containsT34_calls (fn:Nat) (p:S34→Option Bool) (eg:Enters Try.prog fn) (hp:∀ (x:S34) (b:Bool) (W:World),p x=some b→Calls Try.prog fn #[.agg #[.int .i64 (x.f0),.int .i64 (x.f1),.string (x.f2),.string (x.f3)]] W fun e w'=>e=.returned (.bool b)∧Below W.heap.size W w')
  (A0:Option Addr) (c0:Nat) (l0:List S34) (r:Bool) (w:World) (hr0:Kd.C k34 w A0 l0.length l0) (h:anyO p l0=some r) :
  Calls Try.prog 88 #[.slice A0 l0.length c0,.func (.func fn) #[] #[]] w fun e w'=>e=.returned (.bool r)∧Below w.heap.size w w':=by
 have C1:=U.mk (fun W (hW:Kd.C k34 W A0 l0.length l0)=>indexT34_calls fn p eg hp A0 c0 l0 r W hW h)
 have HR0:=U.mk hr0
 clear hr0 hp h eg
 go_enter Try.func88,Try.ntmps88
 go_wp2_with (go_at_call 137;refine(C1.out _ (by repeat(first|exact HR0.out|apply Kd.C_drewN|apply Kd.C_drew))).mono ?_;rintro e w' ⟨i,rfl,hi,hb⟩;have HD:=U.mk (zz (by repeat(first|exact Below.refl _ _|apply below_drew|apply J)) hb);clear hb)
 go_ret
 exact⟨by simp only[← hi];rfl,by repeat(first|exact HD.out|apply below_drew|apply J)⟩
end Go.Proofs.Ytccbjchlcelkgaa.Pr
namespace Go.Proofs.Ytccbjchlcelkgaa.Pr
open Go.RowKit Go.Proofs.YtccbjchlcelkgaaW.PrintWords Go.Proofs.YtccbjchlcelkgaaW.PrintLast Go.Proofs.YtccbjchlcelkgaaW.PrintMore
set_option linter.unusedVariables false
set_option linter.unusedSimpArgs false
set_option maxHeartbeats 1000000 in
theorem indexStr_calls (fn:Nat) (p:ByteArray→Option Bool) (eg:Enters Try.prog fn) (hp:∀ (x:ByteArray) (b:Bool) (W:World),p x=some b→Calls Try.prog fn #[.string x] W fun e w'=>e=.returned (.bool b)∧Drawn0 W w')
  (A0:Option Addr) (c0:Nat) (l0:List ByteArray) (r:Bool) (w:World) (hr0:Kd.C Kd.string w A0 l0.length l0) (h:anyO p l0=some r) :
  Calls Try.prog 206 #[.slice A0 l0.length c0,.func (.func fn) #[] #[]] w fun e w'=>∃ i:Int,e=.returned (.int .i64 i)∧decide (0≤i)=r∧Drawn0 w w':=by
 have hmax:=Kd.C_max hr0
 have HR0:=U.mk hr0
 have HM:=U.mk hmax
 have HP:=U.mk hp
 have HH:=U.mk h
 clear hr0 hmax hp h
 have e1:∀ (args:Array Value) (w:World),(callFunc fn args).run Try.prog w=.ok (.enter fn args) w:=eg
 go_enter Try.func206,Try.ntmps206
 go_wp2
 go_loopw [5,8] (fun v5 i W=>∃ k:Nat,k≤l0.length∧i=.int .i64 k∧U (anyO p (l0.drop k)=some r∧Drawn0 w W)) (fun _ i _=>l0.length - (intOf i).toNat)
 case atStart=>exact⟨0,by omega,rfl,⟨HH.out,Drawn0.refl _⟩⟩
 case round =>
  obtain⟨k,hk,rfl,HW⟩:=hrel
  have hmax:=HM.out
  by_cases hlt:k < l0.length
  ·obtain⟨ad,rfl,hcell⟩:=Kd.at_string HR0.out k (by omega) (by omega)
   rw[Int.toNat_natCast] at hcell
   obtain⟨b,hb,h1,h2⟩:=anyO_drop hlt HW.out.1
   have hcell2:wr.cell? (ad.add k)=some (.string (l0[k])):=by
    obtain⟨⟨nd,e⟩⟩:=HW.out.2
    rw[e]
    refine hcell.trans ?_
    simp[rd,rdOf,List.getD_eq_getElem?_getD,List.getElem?_eq_getElem hlt]
   clear hcell
   have HC:=U.mk (fun W=>HP.out l0[k] b W hb)
   clear hb
   obtain⟨x,hx⟩ : ∃ x,x=l0[k]:=⟨_,rfl⟩
   rw[← hx] at hcell2 HC
   clear hx
   cases b with
   | false =>
    have HB:=U.mk (h2 rfl)
    clear h1 h2
    go_wp2_with (go_at_fn fn;refine(HC.out _).mono ?_;rintro e w' ⟨rfl,⟨⟨nd,rfl⟩⟩⟩)
    go_roundw
    case rel=>exact⟨k + 1,by omega,by go_num,⟨HB.out,by repeat(first|exact HW.out.2|apply Drawn0.step)⟩⟩
    case measure=>simp[intOf];omega
   | true =>
    have HB:=U.mk (h1 rfl)
    clear h1 h2
    go_wp2_with (go_at_fn fn;refine(HC.out _).mono ?_;rintro e w' ⟨rfl,⟨⟨nd,rfl⟩⟩⟩)
    go_ret
    exact⟨k,rfl,by rw[HB.out];exact decide_eq_true (by omega),by repeat(first|exact HW.out.2|apply Drawn0.step)⟩
  ·obtain rfl:k=l0.length:=by omega
   rw[List.drop_length] at HW
   go_wp2
   go_ret
   exact⟨-1,rfl,by have:=Option.some.inj HW.out.1;rw[← this];rfl,HW.out.2⟩
theorem containsStr_calls (fn:Nat) (p:ByteArray→Option Bool) (eg:Enters Try.prog fn) (hp:∀ (x:ByteArray) (b:Bool) (W:World),p x=some b→Calls Try.prog fn #[.string x] W fun e w'=>e=.returned (.bool b)∧Drawn0 W w')
  (A0:Option Addr) (c0:Nat) (l0:List ByteArray) (r:Bool) (w:World) (hr0:Kd.C Kd.string w A0 l0.length l0) (h:anyO p l0=some r) :
  Calls Try.prog 201 #[.slice A0 l0.length c0,.func (.func fn) #[] #[]] w fun e w'=>e=.returned (.bool r)∧Drawn0 w w':=by
 have C1:=U.mk (fun W (hW:Kd.C Kd.string W A0 l0.length l0)=>indexStr_calls fn p eg hp A0 c0 l0 r W hW h)
 have HR0:=U.mk hr0
 clear hr0 hp h eg
 go_enter Try.func201,Try.ntmps201
 go_wp2_with (go_at_call 206;refine(C1.out _ HR0.out).mono ?_;rintro e w' ⟨i,rfl,hi,⟨⟨nd,rfl⟩⟩⟩)
 go_ret
 exact⟨by simp only[← hi];rfl,⟨⟨_,rfl⟩⟩⟩
end Go.Proofs.Ytccbjchlcelkgaa.Pr
namespace Go.Proofs.Ytccbjchlcelkgaa.Pr
open Go.RowKit Go.Proofs.YtccbjchlcelkgaaW.PrintWords Go.Proofs.YtccbjchlcelkgaaW.PrintLast Go.Proofs.YtccbjchlcelkgaaW.PrintMore
attribute [local go_sem] max2_int min2_int max_two min_two max_three min_three max_four min_four
set_option linter.unusedVariables false
set_option linter.unusedSimpArgs false
def xk.f (a0:Int):Option (Bool):=if a0 ≥ 48 then(some (decide (a0≤57))) else(some false)
theorem xk.calls (a0:Int) (r:Bool) (w:World) (h:xk.f a0=some r) :
  Calls Try.prog 163 #[.int .u8 a0] w fun e w'=>e=.returned (.bool r)∧Drawn0 w w':=by
 have H:(if a0 ≥ 48 then(some (decide (a0≤57))) else(some false))=some r:=h
 clear h
 by_cases c2:a0 ≥ 48
 ·rw[if_pos c2] at H
  have c2b0:decide (48≤a0)=true:=decide_eq_true c2
  clear c2
  obtain rfl:=Option.some.inj H
  go_enter Try.func163,Try.ntmps163
  go_wp2
  go_ret
  exact⟨by first|rfl|(simp;done)|(simp[*];done),by repeat(first|exact Drawn0.refl _|apply Drawn0.step)⟩
 ·rw[if_neg c2] at H
  have c2b0:decide (48≤a0)=false:=decide_eq_false c2
  clear c2
  obtain rfl:=Option.some.inj H
  go_enter Try.func163,Try.ntmps163
  go_wp2
  go_ret
  exact⟨by first|rfl|(simp;done)|(simp[*];done),by repeat(first|exact Drawn0.refl _|apply Drawn0.step)⟩
end Go.Proofs.Ytccbjchlcelkgaa.Pr
namespace Go.Proofs.Ytccbjchlcelkgaa.Pr
open Go.RowKit Go.Proofs.YtccbjchlcelkgaaW.PrintWords Go.Proofs.YtccbjchlcelkgaaW.PrintLast Go.Proofs.YtccbjchlcelkgaaW.PrintMore
attribute [local go_sem] max2_int min2_int max_two min_two max_three min_three max_four min_four
set_option linter.unusedVariables false
set_option linter.unusedSimpArgs false
def xw.f (a0:Int):Option (Bool):=if a0 ≥ 97 then(if a0≤122 then(some true) else(if a0 ≥ 65 then(some (decide (a0≤90))) else(some false))) else(if a0 ≥ 65 then(some (decide (a0≤90))) else(some false))
theorem xw.calls (a0:Int) (r:Bool) (w:World) (h:xw.f a0=some r) :
  Calls Try.prog 191 #[.int .u8 a0] w fun e w'=>e=.returned (.bool r)∧Drawn0 w w':=by
 unfold xw.f at h
 have H:=h
 clear h
 by_cases c2:a0 ≥ 97
 ·rw[if_pos c2] at H
  have c2b0:decide (97≤a0)=true:=decide_eq_true c2
  clear c2
  by_cases c3:a0≤122
  ·rw[if_pos c3] at H
   have c3b0:decide (a0≤122)=true:=decide_eq_true c3
   clear c3
   obtain rfl:=Option.some.inj H
   go_enter Try.func191,Try.ntmps191
   go_wp2
   go_ret
   exact⟨by first|rfl|(simp;done)|(simp[*];done),by repeat(first|exact Drawn0.refl _|apply Drawn0.step)⟩
  ·rw[if_neg c3] at H
   have c3b0:decide (a0≤122)=false:=decide_eq_false c3
   clear c3
   by_cases c4:a0 ≥ 65
   ·rw[if_pos c4] at H
    have c4b0:decide (65≤a0)=true:=decide_eq_true c4
    clear c4
    obtain rfl:=Option.some.inj H
    go_enter Try.func191,Try.ntmps191
    go_wp2
    go_ret
    exact⟨by first|rfl|(simp;done)|(simp[*];done),by repeat(first|exact Drawn0.refl _|apply Drawn0.step)⟩
   ·rw[if_neg c4] at H
    have c4b0:decide (65≤a0)=false:=decide_eq_false c4
    clear c4
    obtain rfl:=Option.some.inj H
    go_enter Try.func191,Try.ntmps191
    go_wp2
    go_ret
    exact⟨by first|rfl|(simp;done)|(simp[*];done),by repeat(first|exact Drawn0.refl _|apply Drawn0.step)⟩
 ·rw[if_neg c2] at H
  have c2b0:decide (97≤a0)=false:=decide_eq_false c2
  clear c2
  by_cases c5:a0 ≥ 65
  ·rw[if_pos c5] at H
   have c5b0:decide (65≤a0)=true:=decide_eq_true c5
   clear c5
   obtain rfl:=Option.some.inj H
   go_enter Try.func191,Try.ntmps191
   go_wp2
   go_ret
   exact⟨by first|rfl|(simp;done)|(simp[*];done),by repeat(first|exact Drawn0.refl _|apply Drawn0.step)⟩
  ·rw[if_neg c5] at H
   have c5b0:decide (65≤a0)=false:=decide_eq_false c5
   clear c5
   obtain rfl:=Option.some.inj H
   go_enter Try.func191,Try.ntmps191
   go_wp2
   go_ret
   exact⟨by first|rfl|(simp;done)|(simp[*];done),by repeat(first|exact Drawn0.refl _|apply Drawn0.step)⟩
end Go.Proofs.Ytccbjchlcelkgaa.Pr
namespace Go.Proofs.Ytccbjchlcelkgaa.Pr
open Go.RowKit Go.Proofs.YtccbjchlcelkgaaW.PrintWords Go.Proofs.YtccbjchlcelkgaaW.PrintLast Go.Proofs.YtccbjchlcelkgaaW.PrintMore
attribute [local go_sem] max2_int min2_int max_two min_two max_three min_three max_four min_four
set_option linter.unusedVariables false
set_option linter.unusedSimpArgs false
def qqq.f (a0:Int):Option (Bool):=(xw.f a0).bind fun t101=>(if t101=true then(some true) else((xk.f a0).bind fun t102=>(if t102=true then(some true) else(some (a0 == 95)))))
theorem qqq.calls (a0:Int) (r:Bool) (w:World) (h:qqq.f a0=some r) :
  Calls Try.prog 164 #[.int .u8 a0] w fun e w'=>e=.returned (.bool r)∧Drawn0 w w':=by
 unfold qqq.f at h
 have H:=h
 clear h
 replace H:=jq8.mp H
 obtain⟨t101,A20,H⟩:=H
 try dsimp only at H
 have A2:=U.mk A20
 clear A20
 by_cases c3:t101=true
 ·subst c3
  have H1:(some true)=some r:=by rw[if_pos rfl] at H;exact H
  clear H
  have H:=H1
  clear H1
  obtain rfl:=Option.some.inj H
  go_enter Try.func164,Try.ntmps164
  go_wp2_with (first|((with_reducible refine jw (f:=191) rfl ?_);refine goesL_ (some 4) rfl rfl Try.func191 (by kernel_rfl) rfl #[.int .u8 a0] rfl (by(try simp only[jq0,jq1,jq2]);first|done|rfl|(simp only[jq3,jq4];rfl)) ?_;(with_reducible refine(xw.calls a0 true _ A2.out).mono ?_);rintro e w' ⟨rfl,⟨nd,rfl⟩⟩;refine⟨_,rfl,?_⟩))
  go_ret
  exact⟨by first|rfl|(simp;done)|(simp[*];done),by repeat(first|exact Drawn0.refl _|apply Drawn0.step)⟩
 ·replace c3:=jq9.mpr c3
  subst c3
  have H1:((xk.f a0).bind fun t102=>(if t102=true then(some true) else(some (a0 == 95))))=some r:=by rw[if_neg (show ¬ (false=true) by decide)] at H;exact H
  clear H
  have H:=H1
  clear H1
  replace H:=jq8.mp H
  obtain⟨t102,A40,H⟩:=H
  try dsimp only at H
  have A4:=U.mk A40
  clear A40
  by_cases c5:t102=true
  ·subst c5
   have H1:(some true)=some r:=by rw[if_pos rfl] at H;exact H
   clear H
   have H:=H1
   clear H1
   obtain rfl:=Option.some.inj H
   go_enter Try.func164,Try.ntmps164
   go_wp2_with (first|((with_reducible refine jw (f:=191) rfl ?_);refine goesL_ (some 4) rfl rfl Try.func191 (by kernel_rfl) rfl #[.int .u8 a0] rfl (by(try simp only[jq0,jq1,jq2]);first|done|rfl|(simp only[jq3,jq4];rfl)) ?_;(with_reducible refine(xw.calls a0 false _ A2.out).mono ?_);rintro e w' ⟨rfl,⟨nd,rfl⟩⟩;refine⟨_,rfl,?_⟩)|(go_at_call 163;(with_reducible refine(xk.calls a0 true _ A4.out).mono ?_);rintro e w' ⟨rfl,⟨nd,rfl⟩⟩))
   go_ret
   exact⟨by first|rfl|(simp;done)|(simp[*];done),by repeat(first|exact Drawn0.refl _|apply Drawn0.step)⟩
  ·replace c5:=jq9.mpr c5
   subst c5
   have H1:(some (a0 == 95))=some r:=by rw[if_neg (show ¬ (false=true) by decide)] at H;exact H
   clear H
   have H:=H1
   clear H1
   obtain rfl:=Option.some.inj H
   go_enter Try.func164,Try.ntmps164
   go_wp2_with (first|((with_reducible refine jw (f:=191) rfl ?_);refine goesL_ (some 4) rfl rfl Try.func191 (by kernel_rfl) rfl #[.int .u8 a0] rfl (by(try simp only[jq0,jq1,jq2]);first|done|rfl|(simp only[jq3,jq4];rfl)) ?_;(with_reducible refine(xw.calls a0 false _ A2.out).mono ?_);rintro e w' ⟨rfl,⟨nd,rfl⟩⟩;refine⟨_,rfl,?_⟩)|(go_at_call 163;(with_reducible refine(xk.calls a0 false _ A4.out).mono ?_);rintro e w' ⟨rfl,⟨nd,rfl⟩⟩))
   go_ret
   exact⟨by first|rfl|(simp;done)|(simp[*];done),by repeat(first|exact Drawn0.refl _|apply Drawn0.step)⟩
end Go.Proofs.Ytccbjchlcelkgaa.Pr
namespace Go.Proofs.Ytccbjchlcelkgaa.Pr
open Go.RowKit Go.Proofs.YtccbjchlcelkgaaW.PrintWords Go.Proofs.YtccbjchlcelkgaaW.PrintLast Go.Proofs.YtccbjchlcelkgaaW.PrintMore
attribute [local go_sem] max2_int min2_int max_two min_two max_three min_three max_four min_four
set_option linter.unusedVariables false
set_option linter.unusedSimpArgs false
mutual
def wv.j0:Nat→ByteArray→Bool→Option (Bool)
 | 0,_,_=>none
 | k + 1,x0,x15=>if x15=true then(some false) else(wv.l0 k x0 (x0.size:Int) 0)
def wv.l0:Nat→ByteArray→Int→Int→Option (Bool)
 | 0,_,_,_=>none
 | k + 1,x0,x17,x18=>if x18 < x17 then(if 0≤x18 then(if x18 < (x0.size:Int) then((qqq.f (bt x0 x18)).bind fun t102=>(if t102=true then(wv.l0 k x0 x17 (wrap64 (x18 + 1))) else(some false))) else(none)) else(none)) else(some true)
end
def wv.f (k:Nat) (a0:ByteArray):Option (Bool):=if a0.toList=([]:List UInt8) then(wv.j0 k a0 true) else(if (a0.size:Int) > 30 then(wv.j0 k a0 true) else(if 0 < (a0.size:Int) then((xk.f (bt a0 0)).bind fun t101=>(wv.j0 k a0 t101)) else(none)))
theorem wv.mono_l:∀ k,(∀ y0 y1,LeO (wv.j0 k y0 y1) (wv.j0 (k + 1) y0 y1))∧(∀ y0 y1 y2,LeO (wv.l0 k y0 y1 y2) (wv.l0 (k + 1) y0 y1 y2))
 | 0=>⟨fun _ _ r h=>by simp[wv.j0] at h,fun _ _ _ r h=>by simp[wv.l0] at h⟩
 | k + 1=>by
  obtain⟨ih0,ih1⟩:=wv.mono_l k
  refine⟨?_,?_⟩
  ·intro y0 y1
   unfold wv.j0
   repeat' first
   | (with_reducible exact ih0 _ _)
   | (with_reducible exact ih1 _ _ _)
   | (with_reducible exact LeO.refl _)
   | (with_reducible exact LeO.none _)
   | (with_reducible refine LeO.ite ?_ ?_)
   | (with_reducible refine LeO.bind ?_ (fun _=>?_))
   | exact ih0 _ _
   | exact ih1 _ _ _
   | exact LeO.none _
   | refine LeO.ite ?_ ?_
   | refine LeO.bind ?_ (fun _=>?_)
  ·intro y0 y1 y2
   unfold wv.l0
   repeat' first
   | (with_reducible exact ih0 _ _)
   | (with_reducible exact ih1 _ _ _)
   | (with_reducible exact LeO.refl _)
   | (with_reducible exact LeO.none _)
   | (with_reducible refine LeO.ite ?_ ?_)
   | (with_reducible refine LeO.bind ?_ (fun _=>?_))
   | exact ih0 _ _
   | exact ih1 _ _ _
   | exact LeO.none _
   | refine LeO.ite ?_ ?_
   | refine LeO.bind ?_ (fun _=>?_)
theorem wv.mono:∀ a0 k,LeO (wv.f k a0) (wv.f (k + 1) a0):=by
 intro a0 k
 obtain⟨ih0,ih1⟩:=wv.mono_l k
 unfold wv.f
 repeat' first
   | (with_reducible exact ih0 _ _)
   | (with_reducible exact ih1 _ _ _)
   | (with_reducible exact LeO.refl _)
   | (with_reducible exact LeO.none _)
   | (with_reducible refine LeO.ite ?_ ?_)
   | (with_reducible refine LeO.bind ?_ (fun _=>?_))
   | exact ih0 _ _
   | exact ih1 _ _ _
   | exact LeO.none _
   | refine LeO.ite ?_ ?_
   | refine LeO.bind ?_ (fun _=>?_)
theorem wv.calls (k:Nat) (a0:ByteArray) (r:Bool) (w:World) (h:wv.f k a0=some r) :
  Calls Try.prog 129 #[.string a0] w fun e w'=>e=.returned (.bool r)∧Drawn0 w w':=by
 unfold wv.f at h
 have H:=h
 clear h
 have HC2:=U.mk H
 clear H
 go_enter Try.func129,Try.ntmps129
 go_upto_region 1 with (fail)
 go_cut [15] (fun v15 wc=>∃ (kq:Nat) (x15_1:Bool),v15=.bool x15_1∧U (wv.j0 kq a0 x15_1=some r)∧U (kq≤k)∧Drawn0 w wc)
 case first =>
  have H:=HC2.out
  clear HC2
  by_cases c3:a0.toList=([]:List UInt8)
  ·rw[if_pos c3] at H
   have c3b0:(a0.toList == ([]:List UInt8))=true:=beq_iff_eq.mpr c3
   have c3b1:(a0.toList != ([]:List UInt8))=false:=bne_eq_false_iff_eq.mpr c3
   clear c3
   (first|rw[c3b0]|(simp only[i64_w,i32_w];rw[c3b0])|skip)
   have H':=U.mk H
   clear H
   go_wp2
   go_meet
   case rel=>exact⟨_,(true),(by first|rfl|(simp;done)|(simp[*];done)|(generalize ByteArray.toList _=l_;cases l_ <;> first|rfl|(simp;done))),H',⟨by first|omega|exact Nat.le_refl _⟩,by repeat(first|exact Drawn0.refl _|apply Drawn0.step)⟩
  ·rw[if_neg c3] at H
   have c3b0:(a0.toList == ([]:List UInt8))=false:=beq_eq_false_iff_ne.mpr c3
   have c3b1:(a0.toList != ([]:List UInt8))=true:=bne_iff_ne.mpr c3
   (first|rw[c3b0]|(simp only[i64_w,i32_w];rw[c3b0])|skip)
   by_cases c4:(a0.size:Int) > 30
   ·rw[if_pos c4] at H
    have c4b0:decide (30 < (a0.size:Int))=true:=decide_eq_true c4
    have c4b1:decide (30 < a0.size)=true:=decide_eq_true (by omega)
    clear c4
    have H':=U.mk H
    clear H
    go_wp2
    go_meet
    case rel=>exact⟨_,(true),(by first|rfl|(simp;done)|(simp[*];done)|(generalize ByteArray.toList _=l_;cases l_ <;> first|rfl|(simp;done))),H',⟨by first|omega|exact Nat.le_refl _⟩,by repeat(first|exact Drawn0.refl _|apply Drawn0.step)⟩
   ·rw[if_neg c4] at H
    have c4b0:decide (30 < (a0.size:Int))=false:=decide_eq_false c4
    have c4b1:decide (30 < a0.size)=false:=decide_eq_false (by omega)
    clear c4
    by_cases c5 : 0 < (a0.size:Int)
    ·rw[if_pos c5] at H
     have c5b0:decide (0 < (a0.size:Int))=true:=decide_eq_true c5
     have c5b1:decide (0 < a0.size)=true:=decide_eq_true (by omega)
     clear c5
     replace H:=jq8.mp H
     obtain⟨t101,A70,H⟩:=H
     replace H:(wv.j0 k a0 t101)=some r:=H
     have A7:=U.mk A70
     clear A70
     have H':=U.mk H
     clear H
     have p6 : 0≤(0:Int):=(by omega)
     have q6 : 0 < a0.size:=(by have:(0:Int) < (a0.size:Int):=of_decide_eq_true (by assumption);omega)
     have hx6:∀ h : 0 < a0.size,((a0[0]'h).toNat:Int)=bt a0 0:=bt_at a0 0
     clear p6
     have qi6:(0 < (a0.size:Int))=True:=eq_true (of_decide_eq_true (by assumption))
     replace q6:=eq_true q6
     go_wp2_with (first|(go_at_call 163;(with_reducible refine(xk.calls (bt a0 0) t101 _ A7.out).mono ?_);rintro e w' ⟨rfl,⟨nd,rfl⟩⟩))
     go_meet
     case rel=>exact⟨_,(t101),(by first|rfl|(simp;done)|(simp[*];done)|(generalize ByteArray.toList _=l_;cases l_ <;> first|rfl|(simp;done))),H',⟨by first|omega|exact Nat.le_refl _⟩,by repeat(first|exact Drawn0.refl _|apply Drawn0.step)⟩
    ·rw[if_neg c5] at H
     exact absurd H (by simp)
 case rest =>
  clear HC2
  try clear c1
  try clear p2
  try clear c3
  try clear c3b0
  try clear c3b1
  try clear c4
  try clear c4b0
  try clear c4b1
  try clear c5
  try clear c5b0
  try clear c5b1
  try clear p6
  try clear q6
  try clear hx6
  try clear qi6
  try clear p6
  try clear q6
  obtain⟨kq,x15_1,rfl,HA,HJ1,⟨mc1,rfl⟩⟩:=hcut
  cases kq with
  | zero=>exact absurd HA.out (by simp[wv.j0])
  | succ kj1 =>
   have H:=HA.out
   clear HA
   simp only[wv.j0] at H
   by_cases c8:x15_1=true
   ·subst c8
    have H1:(some false)=some r:=by rw[if_pos rfl] at H;exact H
    clear H
    have H:=H1
    clear H1
    obtain rfl:=Option.some.inj H
    go_wp2
    go_ret
    exact⟨by first|rfl|(simp;done)|(simp[*];done),by repeat(first|exact Drawn0.refl _|apply Drawn0.step)⟩
   ·replace c8:=jq9.mpr c8
    subst c8
    have H1:(wv.l0 kj1 a0 (a0.size:Int) 0)=some r:=by rw[if_neg (show ¬ (false=true) by decide)] at H;exact H
    clear H
    have H:=H1
    clear H1
    have H':=U.mk H
    clear H
    go_wp2
    go_loopg [18] kj1 (fun kq v18 w'=>∃ (x18_2:Int),v18=.int .i64 x18_2∧U (wv.l0 kq a0 (a0.size:Int) x18_2=some r)∧U (kq≤kj1)∧Drawn0 w w')
    case atStart=>exact⟨(0),(by first|rfl|(simp;done)|(simp[*];done)|(generalize ByteArray.toList _=l_;cases l_ <;> first|rfl|(simp;done))),H',⟨Nat.le_refl _⟩,by repeat(first|exact Drawn0.refl _|apply Drawn0.step)⟩
    case round =>
     clear H'
     try clear c1
     try clear p2
     try clear c3
     try clear c3b0
     try clear c3b1
     try clear c4
     try clear c4b0
     try clear c4b1
     try clear c5
     try clear c5b0
     try clear c5b1
     try clear p6
     try clear q6
     try clear hx6
     try clear qi6
     try clear c8
     try clear p2
     try clear p6
     try clear q6
     obtain⟨x18_2,rfl,HA,HK2,⟨m2,rfl⟩⟩:=hrel
     cases gk with
     | zero=>exact absurd HA.out (by simp[wv.l0])
     | succ k2 =>
      have H:=HA.out
      clear HA
      simp only[wv.l0] at H
      by_cases c9:x18_2 < (a0.size:Int)
      ·rw[if_pos c9] at H
       have c9b0:decide (x18_2 < (a0.size:Int))=true:=decide_eq_true c9
       clear c9
       by_cases c10 : 0≤x18_2
       ·rw[if_pos c10] at H
        have c10b0:decide (0≤x18_2)=true:=decide_eq_true c10
        clear c10
        by_cases c11:x18_2 < (a0.size:Int)
        ·rw[if_pos c11] at H
         have c11b0:decide (x18_2 < (a0.size:Int))=true:=decide_eq_true c11
         clear c11
         replace H:=jq8.mp H
         obtain⟨t102,A130,H⟩:=H
         try dsimp only at H
         have A13:=U.mk A130
         clear A130
         by_cases c14:t102=true
         ·subst c14
          have H1:(wv.l0 k2 a0 (a0.size:Int) (wrap64 (x18_2 + 1)))=some r:=by rw[if_pos rfl] at H;exact H
          clear H
          have H:=H1
          clear H1
          have H':=U.mk H
          clear H
          have p12 : 0≤(x18_2:Int):=of_decide_eq_true (by assumption)
          have q12:x18_2 < (a0.size:Int):=of_decide_eq_true (by assumption)
          have hx12:=bt_at a0 x18_2
          replace p12:=eq_true p12
          replace q12:=eq_true q12
          go_wp2_with (first|((with_reducible refine jw (f:=164) rfl ?_);refine goesL_ (some 24) rfl rfl Try.func164 (by kernel_rfl) rfl #[.int .u8 (bt a0 x18_2)] rfl (by(try simp only[jq0,jq1,jq2]);first|done|rfl|(simp only[jq3,jq4];rfl)) ?_;(with_reducible refine(qqq.calls (bt a0 x18_2) true _ A13.out).mono ?_);rintro e w' ⟨rfl,⟨nd,rfl⟩⟩;refine⟨_,rfl,?_⟩))
          go_roundg k2
          case measure=>have:=HJ1.out;have:=HK2.out;omega
          case rel=>exact⟨(wrap64 (x18_2 + 1)),(by first|rfl|(simp;done)|(simp[*];done)|(generalize ByteArray.toList _=l_;cases l_ <;> first|rfl|(simp;done))),H',⟨by have:=HJ1.out;have:=HK2.out;omega⟩,by repeat(first|exact Drawn0.refl _|apply Drawn0.step)⟩
         ·replace c14:=jq9.mpr c14
          subst c14
          have H1:(some false)=some r:=by rw[if_neg (show ¬ (false=true) by decide)] at H;exact H
          clear H
          have H:=H1
          clear H1
          obtain rfl:=Option.some.inj H
          have p12 : 0≤(x18_2:Int):=of_decide_eq_true (by assumption)
          have q12:x18_2 < (a0.size:Int):=of_decide_eq_true (by assumption)
          have hx12:=bt_at a0 x18_2
          replace p12:=eq_true p12
          replace q12:=eq_true q12
          go_wp2_with (first|((with_reducible refine jw (f:=164) rfl ?_);refine goesL_ (some 24) rfl rfl Try.func164 (by kernel_rfl) rfl #[.int .u8 (bt a0 x18_2)] rfl (by(try simp only[jq0,jq1,jq2]);first|done|rfl|(simp only[jq3,jq4];rfl)) ?_;(with_reducible refine(qqq.calls (bt a0 x18_2) false _ A13.out).mono ?_);rintro e w' ⟨rfl,⟨nd,rfl⟩⟩;refine⟨_,rfl,?_⟩))
          go_ret
          exact⟨by first|rfl|(simp;done)|(simp[*];done),by repeat(first|exact Drawn0.refl _|apply Drawn0.step)⟩
        ·rw[if_neg c11] at H
         exact absurd H (by simp)
       ·rw[if_neg c10] at H
        exact absurd H (by simp)
      ·rw[if_neg c9] at H
       have c9b0:decide (x18_2 < (a0.size:Int))=false:=decide_eq_false c9
       clear c9
       obtain rfl:=Option.some.inj H
       go_wp2
       go_ret
       exact⟨by first|rfl|(simp;done)|(simp[*];done),by repeat(first|exact Drawn0.refl _|apply Drawn0.step)⟩
end Go.Proofs.Ytccbjchlcelkgaa.Pr
namespace Go.Proofs.Ytccbjchlcelkgaa.Pr
open Go.RowKit Go.Proofs.YtccbjchlcelkgaaW.PrintWords Go.Proofs.YtccbjchlcelkgaaW.PrintLast Go.Proofs.YtccbjchlcelkgaaW.PrintMore
attribute [local go_sem] max2_int min2_int max_two min_two max_three min_three max_four min_four
set_option linter.unusedVariables false
set_option linter.unusedSimpArgs false
mutual
def xx.j0:Nat→ByteArray→Bool→Option (Bool)
 | 0,_,_=>none
 | k + 1,x0,x17=>if x17=true then(some false) else(xx.l0 k x0 (x0.size:Int) 0)
def xx.l0:Nat→ByteArray→Int→Int→Option (Bool)
 | 0,_,_,_=>none
 | k + 1,x0,x19,x20=>if x20 < x19 then(if 0≤x20 then(if x20 < (x0.size:Int) then(if (bt x0 x20) < 32 then(some false) else(if (bt x0 x20) > 126 then(some false) else(xx.l0 k x0 x19 (wrap64 (x20 + 1))))) else(none)) else(none)) else(some true)
end
def xx.f (k:Nat) (a0:ByteArray) (a1:Int) (a2:Int):Option (Bool):=if (a0.size:Int) < a1 then(xx.j0 k a0 true) else(xx.j0 k a0 (decide ((a0.size:Int) > a2)))
theorem xx.mono_l:∀ k,(∀ y0 y1,LeO (xx.j0 k y0 y1) (xx.j0 (k + 1) y0 y1))∧(∀ y0 y1 y2,LeO (xx.l0 k y0 y1 y2) (xx.l0 (k + 1) y0 y1 y2))
 | 0=>⟨fun _ _ r h=>by simp[xx.j0] at h,fun _ _ _ r h=>by simp[xx.l0] at h⟩
 | k + 1=>by
  obtain⟨ih0,ih1⟩:=xx.mono_l k
  refine⟨?_,?_⟩
  ·intro y0 y1
   unfold xx.j0
   repeat' first
   | (with_reducible exact ih0 _ _)
   | (with_reducible exact ih1 _ _ _)
   | (with_reducible exact LeO.refl _)
   | (with_reducible exact LeO.none _)
   | (with_reducible refine LeO.ite ?_ ?_)
   | (with_reducible refine LeO.bind ?_ (fun _=>?_))
   | exact ih0 _ _
   | exact ih1 _ _ _
   | exact LeO.none _
   | refine LeO.ite ?_ ?_
   | refine LeO.bind ?_ (fun _=>?_)
  ·intro y0 y1 y2
   unfold xx.l0
   repeat' first
   | (with_reducible exact ih0 _ _)
   | (with_reducible exact ih1 _ _ _)
   | (with_reducible exact LeO.refl _)
   | (with_reducible exact LeO.none _)
   | (with_reducible refine LeO.ite ?_ ?_)
   | (with_reducible refine LeO.bind ?_ (fun _=>?_))
   | exact ih0 _ _
   | exact ih1 _ _ _
   | exact LeO.none _
   | refine LeO.ite ?_ ?_
   | refine LeO.bind ?_ (fun _=>?_)
theorem xx.mono:∀ a0 a1 a2 k,LeO (xx.f k a0 a1 a2) (xx.f (k + 1) a0 a1 a2):=by
 intro a0 a1 a2 k
 obtain⟨ih0,ih1⟩:=xx.mono_l k
 unfold xx.f
 repeat' first
   | (with_reducible exact ih0 _ _)
   | (with_reducible exact ih1 _ _ _)
   | (with_reducible exact LeO.refl _)
   | (with_reducible exact LeO.none _)
   | (with_reducible refine LeO.ite ?_ ?_)
   | (with_reducible refine LeO.bind ?_ (fun _=>?_))
   | exact ih0 _ _
   | exact ih1 _ _ _
   | exact LeO.none _
   | refine LeO.ite ?_ ?_
   | refine LeO.bind ?_ (fun _=>?_)
theorem xx.calls (k:Nat) (a0:ByteArray) (a1:Int) (a2:Int) (r:Bool) (w:World) (h:xx.f k a0 a1 a2=some r) :
  Calls Try.prog 128 #[.string a0,.int .i64 a1,.int .i64 a2] w fun e w'=>e=.returned (.bool r)∧Drawn0 w w':=by
 unfold xx.f at h
 have H:=h
 clear h
 have HC4:=U.mk H
 clear H
 go_enter Try.func128,Try.ntmps128
 go_upto_region 1 with (fail)
 go_cut [17] (fun v17 wc=>∃ (kq:Nat) (x17_3:Bool),v17=.bool x17_3∧U (xx.j0 kq a0 x17_3=some r)∧U (kq≤k)∧Drawn0 w wc)
 case first =>
  have H:=HC4.out
  clear HC4
  by_cases c5:(a0.size:Int) < a1
  ·rw[if_pos c5] at H
   have c5b0:decide ((a0.size:Int) < a1)=true:=decide_eq_true c5
   clear c5
   (first|rw[c5b0]|(simp only[i64_w,i32_w];rw[c5b0])|skip)
   have H':=U.mk H
   clear H
   go_wp2
   go_meet
   case rel=>exact⟨_,(true),(by first|rfl|(simp;done)|(simp[*];done)),H',⟨by first|omega|exact Nat.le_refl _⟩,by repeat(first|exact Drawn0.refl _|apply Drawn0.step)⟩
  ·rw[if_neg c5] at H
   have c5b0:decide ((a0.size:Int) < a1)=false:=decide_eq_false c5
   clear c5
   (first|rw[c5b0]|(simp only[i64_w,i32_w];rw[c5b0])|skip)
   have H':=U.mk H
   clear H
   go_wp2
   go_meet
   case rel=>exact⟨_,(decide ((a0.size:Int) > a2)),(by first|rfl|(simp;done)|(simp[*];done)),H',⟨by first|omega|exact Nat.le_refl _⟩,by repeat(first|exact Drawn0.refl _|apply Drawn0.step)⟩
 case rest =>
  clear HC4
  try clear c1
  try clear p2
  try clear c5
  try clear c5b0
  obtain⟨kq,x17_3,rfl,HA,HJ3,⟨mc3,rfl⟩⟩:=hcut
  cases kq with
  | zero=>exact absurd HA.out (by simp[xx.j0])
  | succ kj3 =>
   have H:=HA.out
   clear HA
   simp only[xx.j0] at H
   by_cases c6:x17_3=true
   ·subst c6
    have H1:(some false)=some r:=by rw[if_pos rfl] at H;exact H
    clear H
    have H:=H1
    clear H1
    obtain rfl:=Option.some.inj H
    go_wp2
    go_ret
    exact⟨by first|rfl|(simp;done)|(simp[*];done),by repeat(first|exact Drawn0.refl _|apply Drawn0.step)⟩
   ·replace c6:=jq9.mpr c6
    subst c6
    have H1:(xx.l0 kj3 a0 (a0.size:Int) 0)=some r:=by rw[if_neg (show ¬ (false=true) by decide)] at H;exact H
    clear H
    have H:=H1
    clear H1
    have H':=U.mk H
    clear H
    go_wp2
    go_loopg [20] kj3 (fun kq v20 w'=>∃ (x20_2:Int),v20=.int .i64 x20_2∧U (xx.l0 kq a0 (a0.size:Int) x20_2=some r)∧U (kq≤kj3)∧Drawn0 w w')
    case atStart=>exact⟨(0),(by first|rfl|(simp;done)|(simp[*];done)),H',⟨Nat.le_refl _⟩,by repeat(first|exact Drawn0.refl _|apply Drawn0.step)⟩
    case round =>
     clear H'
     try clear c1
     try clear p2
     try clear c3
     try clear c5
     try clear c5b0
     try clear c6
     try clear p2
     obtain⟨x20_2,rfl,HA,HK2,⟨m2,rfl⟩⟩:=hrel
     cases gk with
     | zero=>exact absurd HA.out (by simp[xx.l0])
     | succ k2 =>
      have H:=HA.out
      clear HA
      simp only[xx.l0] at H
      by_cases c7:x20_2 < (a0.size:Int)
      ·rw[if_pos c7] at H
       have c7b0:decide (x20_2 < (a0.size:Int))=true:=decide_eq_true c7
       clear c7
       by_cases c8 : 0≤x20_2
       ·rw[if_pos c8] at H
        have c8b0:decide (0≤x20_2)=true:=decide_eq_true c8
        clear c8
        by_cases c9:x20_2 < (a0.size:Int)
        ·rw[if_pos c9] at H
         have c9b0:decide (x20_2 < (a0.size:Int))=true:=decide_eq_true c9
         clear c9
         by_cases c11:(bt a0 x20_2) < 32
         ·rw[if_pos c11] at H
          have c11b0:decide ((bt a0 x20_2) < 32)=true:=decide_eq_true c11
          clear c11
          obtain rfl:=Option.some.inj H
          have p10 : 0≤(x20_2:Int):=of_decide_eq_true (by assumption)
          have q10:x20_2 < (a0.size:Int):=of_decide_eq_true (by assumption)
          have hx10:=bt_at a0 x20_2
          replace p10:=eq_true p10
          replace q10:=eq_true q10
          go_wp2
          go_ret
          exact⟨by first|rfl|(simp;done)|(simp[*];done),by repeat(first|exact Drawn0.refl _|apply Drawn0.step)⟩
         ·rw[if_neg c11] at H
          have c11b0:decide ((bt a0 x20_2) < 32)=false:=decide_eq_false c11
          clear c11
          by_cases c13:(bt a0 x20_2) > 126
          ·rw[if_pos c13] at H
           have c13b0:decide (126 < (bt a0 x20_2))=true:=decide_eq_true c13
           clear c13
           obtain rfl:=Option.some.inj H
           have p10 : 0≤(x20_2:Int):=of_decide_eq_true (by assumption)
           have q10:x20_2 < (a0.size:Int):=of_decide_eq_true (by assumption)
           have hx10:=bt_at a0 x20_2
           replace p10:=eq_true p10
           replace q10:=eq_true q10
           have p12 : 0≤(x20_2:Int):=of_decide_eq_true (by assumption)
           have q12:x20_2 < (a0.size:Int):=of_decide_eq_true (by assumption)
           have hx12:=bt_at a0 x20_2
           replace p12:=eq_true p12
           replace q12:=eq_true q12
           go_wp2
           go_ret
           exact⟨by first|rfl|(simp;done)|(simp[*];done),by repeat(first|exact Drawn0.refl _|apply Drawn0.step)⟩
          ·rw[if_neg c13] at H
           have c13b0:decide (126 < (bt a0 x20_2))=false:=decide_eq_false c13
           clear c13
           have H':=U.mk H
           clear H
           have p10 : 0≤(x20_2:Int):=of_decide_eq_true (by assumption)
           have q10:x20_2 < (a0.size:Int):=of_decide_eq_true (by assumption)
           have hx10:=bt_at a0 x20_2
           replace p10:=eq_true p10
           replace q10:=eq_true q10
           have p12 : 0≤(x20_2:Int):=of_decide_eq_true (by assumption)
           have q12:x20_2 < (a0.size:Int):=of_decide_eq_true (by assumption)
           have hx12:=bt_at a0 x20_2
           replace p12:=eq_true p12
           replace q12:=eq_true q12
           go_wp2
           go_roundg k2
           case measure=>have:=HJ3.out;have:=HK2.out;omega
           case rel=>exact⟨(wrap64 (x20_2 + 1)),(by first|rfl|(simp;done)|(simp[*];done)),H',⟨by have:=HJ3.out;have:=HK2.out;omega⟩,by repeat(first|exact Drawn0.refl _|apply Drawn0.step)⟩
        ·rw[if_neg c9] at H
         exact absurd H (by simp)
       ·rw[if_neg c8] at H
        exact absurd H (by simp)
      ·rw[if_neg c7] at H
       have c7b0:decide (x20_2 < (a0.size:Int))=false:=decide_eq_false c7
       clear c7
       obtain rfl:=Option.some.inj H
       go_wp2
       go_ret
       exact⟨by first|rfl|(simp;done)|(simp[*];done),by repeat(first|exact Drawn0.refl _|apply Drawn0.step)⟩
end Go.Proofs.Ytccbjchlcelkgaa.Pr
namespace Go.Proofs.Ytccbjchlcelkgaa.Pr
open Go.RowKit Go.Proofs.YtccbjchlcelkgaaW.PrintWords Go.Proofs.YtccbjchlcelkgaaW.PrintLast Go.Proofs.YtccbjchlcelkgaaW.PrintMore
attribute [local go_sem] max2_int min2_int max_two min_two max_three min_three max_four min_four
set_option linter.unusedVariables false
set_option linter.unusedSimpArgs false
def xv.f (k:Nat) (a0_0:ByteArray) (a0_1:ByteArray) (a1:Int):Option (Bool):=(wv.f k a0_0).bind fun t102=>(if t102=true then((xx.f k a0_1 1 a1).bind fun t103=>(some t103)) else(some false))
theorem xv.mono:∀ a0 a1 a2 k,LeO (xv.f k a0 a1 a2) (xv.f (k + 1) a0 a1 a2):=by
 intro a0 a1 a2 k
 unfold xv.f
 repeat' first
   | (with_reducible exact wv.mono _ _)
   | (with_reducible exact xx.mono _ _ _ _)
   | (with_reducible exact LeO.refl _)
   | (with_reducible exact LeO.none _)
   | (with_reducible refine LeO.ite ?_ ?_)
   | (with_reducible refine LeO.bind ?_ (fun _=>?_))
   | exact wv.mono _ _
   | exact xx.mono _ _ _ _
   | exact LeO.none _
   | refine LeO.ite ?_ ?_
   | refine LeO.bind ?_ (fun _=>?_)
theorem xv.calls (k:Nat) (a0_0:ByteArray) (a0_1:ByteArray) (a1:Int) (r:Bool) (w:World) (h:xv.f k a0_0 a0_1 a1=some r) :
  Calls Try.prog 146 #[.agg #[.string a0_0,.string a0_1],.int .i64 a1] w fun e w'=>e=.returned (.bool r)∧Below w.heap.size w w':=by
 have hu122:=Try.underlying122
 have HB:=U.mk (Below.refl w.heap.size w)
 unfold xv.f at h
 have H:=h
 clear h
 replace H:=jq8.mp H
 obtain⟨t102,A30,H⟩:=H
 try dsimp only at H
 have A3:=U.mk A30
 clear A30
 by_cases c4:t102=true
 ·subst c4
  have H1:((xx.f k a0_1 1 a1).bind fun t103=>(some t103))=some r:=by rw[if_pos rfl] at H;exact H
  clear H
  have H:=H1
  clear H1
  replace H:=jq8.mp H
  obtain⟨t103,A50,H⟩:=H
  replace H:(some t103)=some r:=H
  have A5:=U.mk A50
  clear A50
  obtain rfl:=Option.some.inj H
  go_enter Try.func146,Try.ntmps146
  go_wp2_with (first|((with_reducible refine gate_dst (N:=2) rfl ?_);refine box_event ?hg (N:=2) ?hd (cs:=#[.string a0_0,.string a0_1]) (t:=122) ?hr ?_;(case hd=>rfl);(case hg=>rfl);(case hr=>first|(go_simp;done)|(go_simp;rfl));intro gb101 hg w6 hbox hb;have BK101:=U.mk (hbox);have GW101:=U.mk ((by rw[hg];exact(zj (by solve_by_elim only[HB.out,G,J,qq])):w.heap.size≤gb101));have GE101:=U.mk ((by rw[hg];exact(zj (by solve_by_elim only[HB.out,G,J,qq])):w.heap.size≤gb101));replace HB:=U.mk (zz (by solve_by_elim only[HB.out,G,J,qq]) hb);clear hb hbox hg;have hcz7_0:w6.cell? ⟨gb101,0,none⟩ = some (.string a0_0):=(qj BK101.out 0).trans rfl;have hcz7_1:w6.cell? ⟨gb101,1,none⟩ = some (.string a0_1):=(qj BK101.out 1).trans rfl;have hfz7_0:=qz BK101.out 0;have hfz7_1:=qz BK101.out 1)|((with_reducible refine jw (f:=129) rfl ?_);refine goesL_ (some 7) rfl rfl Try.func129 (by kernel_rfl) rfl #[.string a0_0] rfl (by(try simp only[jq0,jq1,jq2]);first|done|rfl|(simp only[jq3,jq4];rfl)) ?_;(with_reducible refine(wv.calls k a0_0 true _ A3.out).mono ?_);rintro e w' ⟨rfl,⟨nd,rfl⟩⟩;refine⟨_,rfl,?_⟩)|(go_at_call 128;(with_reducible refine(xx.calls k a0_1 1 a1 t103 _ A5.out).mono ?_);rintro e w' ⟨rfl,⟨nd,rfl⟩⟩))
  go_ret
  exact⟨by first|rfl|(simp[*,jv,jk] <;> rfl),by repeat(first|(with_reducible first|exact HB.out|apply G|apply J|apply qq|refine qk ?_ GE101.out)|exact HB.out)⟩
 ·replace c4:=jq9.mpr c4
  subst c4
  have H1:(some false)=some r:=by rw[if_neg (show ¬ (false=true) by decide)] at H;exact H
  clear H
  have H:=H1
  clear H1
  obtain rfl:=Option.some.inj H
  go_enter Try.func146,Try.ntmps146
  go_wp2_with (first|((with_reducible refine gate_dst (N:=2) rfl ?_);refine box_event ?hg (N:=2) ?hd (cs:=#[.string a0_0,.string a0_1]) (t:=122) ?hr ?_;(case hd=>rfl);(case hg=>rfl);(case hr=>first|(go_simp;done)|(go_simp;rfl));intro gb101 hg w8 hbox hb;have BK101:=U.mk (hbox);have GW101:=U.mk ((by rw[hg];exact(zj (by solve_by_elim only[HB.out,G,J,qq])):w.heap.size≤gb101));have GE101:=U.mk ((by rw[hg];exact(zj (by solve_by_elim only[HB.out,G,J,qq])):w.heap.size≤gb101));replace HB:=U.mk (zz (by solve_by_elim only[HB.out,G,J,qq]) hb);clear hb hbox hg;have hcz9_0:w8.cell? ⟨gb101,0,none⟩ = some (.string a0_0):=(qj BK101.out 0).trans rfl;have hcz9_1:w8.cell? ⟨gb101,1,none⟩ = some (.string a0_1):=(qj BK101.out 1).trans rfl;have hfz9_0:=qz BK101.out 0;have hfz9_1:=qz BK101.out 1)|((with_reducible refine jw (f:=129) rfl ?_);refine goesL_ (some 7) rfl rfl Try.func129 (by kernel_rfl) rfl #[.string a0_0] rfl (by(try simp only[jq0,jq1,jq2]);first|done|rfl|(simp only[jq3,jq4];rfl)) ?_;(with_reducible refine(wv.calls k a0_0 false _ A3.out).mono ?_);rintro e w' ⟨rfl,⟨nd,rfl⟩⟩;refine⟨_,rfl,?_⟩))
  go_ret
  exact⟨by first|rfl|(simp[*,jv,jk] <;> rfl),by repeat(first|(with_reducible first|exact HB.out|apply G|apply J|apply qq|refine qk ?_ GE101.out)|exact HB.out)⟩
end Go.Proofs.Ytccbjchlcelkgaa.Pr
namespace Go.Proofs.Ytccbjchlcelkgaa.Pr
open Go.RowKit Go.Proofs.YtccbjchlcelkgaaW.PrintWords Go.Proofs.YtccbjchlcelkgaaW.PrintLast Go.Proofs.YtccbjchlcelkgaaW.PrintMore
attribute [local go_sem] max2_int min2_int max_two min_two max_three min_three max_four min_four
set_option linter.unusedVariables false
set_option linter.unusedSimpArgs false
def wj.f (k:Nat) (a0_0:ByteArray) (a0_1:ByteArray):Option (Bool):=(xv.f k a0_0 a0_1 60).bind fun t102=>(some (!t102))
theorem wj.mono:∀ a0 a1 k,LeO (wj.f k a0 a1) (wj.f (k + 1) a0 a1):=by
 intro a0 a1 k
 unfold wj.f
 repeat' first
   | (with_reducible exact xv.mono _ _ _ _)
   | (with_reducible exact LeO.refl _)
   | (with_reducible exact LeO.none _)
   | (with_reducible refine LeO.ite ?_ ?_)
   | (with_reducible refine LeO.bind ?_ (fun _=>?_))
   | exact xv.mono _ _ _ _
   | exact LeO.none _
   | refine LeO.ite ?_ ?_
   | refine LeO.bind ?_ (fun _=>?_)
theorem wj.calls (k:Nat) (a0_0:ByteArray) (a0_1:ByteArray) (r:Bool) (w:World) (h:wj.f k a0_0 a0_1=some r) :
  Calls Try.prog 145 #[.agg #[.string a0_0,.string a0_1]] w fun e w'=>e=.returned (.bool r)∧Below w.heap.size w w':=by
 have hu122:=Try.underlying122
 have HB:=U.mk (Below.refl w.heap.size w)
 have H:((xv.f k a0_0 a0_1 60).bind fun t102=>(some (!t102)))=some r:=h
 clear h
 replace H:=jq8.mp H
 obtain⟨t102,A20,H⟩:=H
 replace H:(some (!t102))=some r:=H
 have A2:=U.mk A20
 clear A20
 obtain rfl:=Option.some.inj H
 go_enter Try.func145,Try.ntmps145
 go_wp2_with (first|((with_reducible refine gate_dst (N:=1) rfl ?_);refine box_event ?hg (N:=1) ?hd (cs:=#[.string a0_0,.string a0_1]) (t:=122) ?hr ?_;(case hd=>rfl);(case hg=>rfl);(case hr=>first|(go_simp;done)|(go_simp;rfl));intro gb101 hg w3 hbox hb;have BK101:=U.mk (hbox);have GW101:=U.mk ((by rw[hg];exact(zj (by solve_by_elim only[HB.out,G,J,qq])):w.heap.size≤gb101));have GE101:=U.mk ((by rw[hg];exact(zj (by solve_by_elim only[HB.out,G,J,qq])):w.heap.size≤gb101));replace HB:=U.mk (zz (by solve_by_elim only[HB.out,G,J,qq]) hb);clear hb hbox hg;have hcz4_0:w3.cell? ⟨gb101,0,none⟩ = some (.string a0_0):=(qj BK101.out 0).trans rfl;have hcz4_1:w3.cell? ⟨gb101,1,none⟩ = some (.string a0_1):=(qj BK101.out 1).trans rfl;have hfz4_0:=qz BK101.out 0;have hfz4_1:=qz BK101.out 1)|((with_reducible refine jw (f:=146) rfl ?_);refine goesL_ (some 4) rfl rfl Try.func146 (by kernel_rfl) rfl #[.agg #[.string a0_0,.string a0_1],.int .i64 60] rfl (by(try simp only[jq0,jq1,jq2]);first|done|rfl|(simp only[jq3,jq4];rfl)) ?_;(with_reducible refine(xv.calls k a0_0 a0_1 60 t102 _ A2.out).mono ?_);rintro e w5 ⟨rfl,hb⟩;refine⟨_,rfl,?_⟩;replace BK101:=U.mk (kv (g:=gb101) (o:=.cells #[.string a0_0,.string a0_1] 122 (0,0)) (by solve_by_elim only[BK101.out,qw,qx,qv]) hb);replace HB:=U.mk (zz (by solve_by_elim (maxDepth:=20) only[HB.out,G,J,qq,qk,GE101.out]) hb);(try clear hb)))
 go_ret
 exact⟨by first|rfl|(simp[*,jv,jk] <;> rfl),by repeat(first|(with_reducible first|exact HB.out|apply G|apply J|apply qq|refine qk ?_ GE101.out)|exact HB.out)⟩
end Go.Proofs.Ytccbjchlcelkgaa.Pr
namespace Go.Proofs.Ytccbjchlcelkgaa.Pr
open Go.RowKit Go.Proofs.YtccbjchlcelkgaaW.PrintWords Go.Proofs.YtccbjchlcelkgaaW.PrintLast Go.Proofs.YtccbjchlcelkgaaW.PrintMore
attribute [local go_sem] max2_int min2_int max_two min_two max_three min_three max_four min_four
set_option linter.unusedVariables false
set_option linter.unusedSimpArgs false
mutual
def wz.j0:Nat→Bool→Int→Int→ByteArray→ByteArray→Option (Bool)
 | 0,_,_,_,_,_=>none
 | k + 1,x3,x102000,x102001,x102002,x102003=>if x102000=1 then(if x3=true then(if x102001=0 then(some true) else(some (x102001 == 1))) else(some false)) else(if x102000=2 then(wz.j1 k x3 x102000 (x102000 == 2) x102000 x102001 x102002 x102003) else(wz.j1 k x3 x102000 (x102000 == 5) x102000 x102001 x102002 x102003))
def wz.j1:Nat→Bool→Int→Bool→Int→Int→ByteArray→ByteArray→Option (Bool)
 | 0,_,_,_,_,_,_,_=>none
 | k + 1,x3,x15,x29,x102000,x102001,x102002,x102003=>if x29=true then(some x3) else(if x15=3 then(if x102001=0 then(if x102003.toList=([]:List UInt8) then((xx.f k x102002 0 200).bind fun t102=>(some t102)) else(some false)) else(some false)) else(if x15=4 then(if x102001=0 then((wv.f k x102003).bind fun t103=>(if t103=true then((xx.f k x102002 1 200).bind fun t104=>(some t104)) else(some false))) else(some false)) else(if x15=6 then(if x3=true then(if x102001 < 0 then(some false) else(if (Int.tmod x102001 64)≤32 then(if (wrap64 (Int.tdiv x102001 64)) < 4294967296 then(if 0≤(wrap64 (32 - (Int.tmod x102001 64))) then(if (shl .i64 1 (wrap64 (32 - (Int.tmod x102001 64))))=0 then(none) else(some ((Int.tmod (wrap64 (Int.tdiv x102001 64)) (shl .i64 1 (wrap64 (32 - (Int.tmod x102001 64))))) == 0))) else(none)) else(some false)) else(some false))) else(some false)) else(if x15=7 then(if x3=true then(if x102001 ≥ (-100000000000) then(some (decide (x102001≤100000000000))) else(some false)) else(some false)) else(some false)))))
end
def wz.f (k:Nat) (a0_0:Int) (a0_1:Int) (a0_2:ByteArray) (a0_3:ByteArray):Option (Bool):=if a0_2.toList=([]:List UInt8) then(wz.j0 k (a0_3.toList == ([]:List UInt8)) a0_0 a0_1 a0_2 a0_3) else(wz.j0 k false a0_0 a0_1 a0_2 a0_3)
theorem wz.mono_l:∀ k,(∀ y0 y1 y2 y3 y4,LeO (wz.j0 k y0 y1 y2 y3 y4) (wz.j0 (k + 1) y0 y1 y2 y3 y4))∧(∀ y0 y1 y2 y3 y4 y5 y6,LeO (wz.j1 k y0 y1 y2 y3 y4 y5 y6) (wz.j1 (k + 1) y0 y1 y2 y3 y4 y5 y6))
 | 0=>⟨fun _ _ _ _ _ r h=>by simp[wz.j0] at h,fun _ _ _ _ _ _ _ r h=>by simp[wz.j1] at h⟩
 | k + 1=>by
  obtain⟨ih0,ih1⟩:=wz.mono_l k
  refine⟨?_,?_⟩
  ·intro y0 y1 y2 y3 y4
   unfold wz.j0
   repeat' first
   | (with_reducible exact ih0 _ _ _ _ _)
   | (with_reducible exact ih1 _ _ _ _ _ _ _)
   | (with_reducible exact wv.mono _ _)
   | (with_reducible exact xx.mono _ _ _ _)
   | (with_reducible exact LeO.refl _)
   | (with_reducible exact LeO.none _)
   | (with_reducible refine LeO.ite ?_ ?_)
   | (with_reducible refine LeO.bind ?_ (fun _=>?_))
   | exact ih0 _ _ _ _ _
   | exact ih1 _ _ _ _ _ _ _
   | exact wv.mono _ _
   | exact xx.mono _ _ _ _
   | exact LeO.none _
   | refine LeO.ite ?_ ?_
   | refine LeO.bind ?_ (fun _=>?_)
  ·intro y0 y1 y2 y3 y4 y5 y6
   unfold wz.j1
   repeat' first
   | (with_reducible exact ih0 _ _ _ _ _)
   | (with_reducible exact ih1 _ _ _ _ _ _ _)
   | (with_reducible exact wv.mono _ _)
   | (with_reducible exact xx.mono _ _ _ _)
   | (with_reducible exact LeO.refl _)
   | (with_reducible exact LeO.none _)
   | (with_reducible refine LeO.ite ?_ ?_)
   | (with_reducible refine LeO.bind ?_ (fun _=>?_))
   | exact ih0 _ _ _ _ _
   | exact ih1 _ _ _ _ _ _ _
   | exact wv.mono _ _
   | exact xx.mono _ _ _ _
   | exact LeO.none _
   | refine LeO.ite ?_ ?_
   | refine LeO.bind ?_ (fun _=>?_)
theorem wz.mono:∀ a0 a1 a2 a3 k,LeO (wz.f k a0 a1 a2 a3) (wz.f (k + 1) a0 a1 a2 a3):=by
 intro a0 a1 a2 a3 k
 obtain⟨ih0,ih1⟩:=wz.mono_l k
 unfold wz.f
 repeat' first
   | (with_reducible exact ih0 _ _ _ _ _)
   | (with_reducible exact ih1 _ _ _ _ _ _ _)
   | (with_reducible exact wv.mono _ _)
   | (with_reducible exact xx.mono _ _ _ _)
   | (with_reducible exact LeO.refl _)
   | (with_reducible exact LeO.none _)
   | (with_reducible refine LeO.ite ?_ ?_)
   | (with_reducible refine LeO.bind ?_ (fun _=>?_))
   | exact ih0 _ _ _ _ _
   | exact ih1 _ _ _ _ _ _ _
   | exact wv.mono _ _
   | exact xx.mono _ _ _ _
   | exact LeO.none _
   | refine LeO.ite ?_ ?_
   | refine LeO.bind ?_ (fun _=>?_)
theorem wz.calls (k:Nat) (a0_0:Int) (a0_1:Int) (a0_2:ByteArray) (a0_3:ByteArray) (r:Bool) (w:World) (h:wz.f k a0_0 a0_1 a0_2 a0_3=some r) :
  Calls Try.prog 70 #[.agg #[.int .i64 a0_0,.int .i64 a0_1,.string a0_2,.string a0_3]] w fun e w'=>e=.returned (.bool r)∧Below w.heap.size w w':=by
 have hu34:=Try.underlying34
 have HB:=U.mk (Below.refl w.heap.size w)
 unfold wz.f at h
 have H:=h
 clear h
 have HC2:=U.mk H
 clear H
 go_enter Try.func70,Try.ntmps70
 go_upto_region 1 with (first|((with_reducible refine gate_dst (N:=1) rfl ?_);refine box_event ?hg (N:=1) ?hd (cs:=#[.int .i64 a0_0,.int .i64 a0_1,.string a0_2,.string a0_3]) (t:=34) ?hr ?_;(case hd=>rfl);(case hg=>rfl);(case hr=>first|(go_simp;done)|(go_simp;rfl));intro gb101 hg w3 hbox hb;have BK101:=U.mk (hbox);have GW101:=U.mk ((by rw[hg];exact(zj (by solve_by_elim only[HB.out,G,J,qq])):w.heap.size≤gb101));have GE101:=U.mk ((by rw[hg];exact(zj (by solve_by_elim only[HB.out,G,J,qq])):w.heap.size≤gb101));replace HB:=U.mk (zz (by solve_by_elim only[HB.out,G,J,qq]) hb);clear hb hbox hg))
 repeat(go_quiet (first|((with_reducible refine gate_dst (N:=1) rfl ?_);refine box_event ?hg (N:=1) ?hd (cs:=#[.int .i64 a0_0,.int .i64 a0_1,.string a0_2,.string a0_3]) (t:=34) ?hr ?_;(case hd=>rfl);(case hg=>rfl);(case hr=>first|(go_simp;done)|(go_simp;rfl));intro gb101 hg w3 hbox hb;have BK101:=U.mk (hbox);have GW101:=U.mk ((by rw[hg];exact(zj (by solve_by_elim only[HB.out,G,J,qq])):w.heap.size≤gb101));have GE101:=U.mk ((by rw[hg];exact(zj (by solve_by_elim only[HB.out,G,J,qq])):w.heap.size≤gb101));replace HB:=U.mk (zz (by solve_by_elim only[HB.out,G,J,qq]) hb);clear hb hbox hg));go_upto_region 1 with (first|((with_reducible refine gate_dst (N:=1) rfl ?_);refine box_event ?hg (N:=1) ?hd (cs:=#[.int .i64 a0_0,.int .i64 a0_1,.string a0_2,.string a0_3]) (t:=34) ?hr ?_;(case hd=>rfl);(case hg=>rfl);(case hr=>first|(go_simp;done)|(go_simp;rfl));intro gb101 hg w3 hbox hb;have n0_:=U.mk (zz (by solve_by_elim only[HB.out,G,J,qq]) hb);have n1_:=U.mk (hbox);have n2_:=U.mk ((by rw[hg];exact(zj (by solve_by_elim only[HB.out,G,J,qq])):w.heap.size≤gb101));have n3_:=U.mk ((by rw[hg];exact(zj (by solve_by_elim only[HB.out,G,J,qq])):w.heap.size≤gb101));clear HB;have HB:=n0_;have BK101:=n1_;have GW101:=n2_;have GE101:=n3_;clear n0_ n1_ n2_ n3_;clear hb hbox hg)))
 (try simp only[Act.put,jq5,jq6,jq7])
 go_cut [3] (fun v3 wc=>∃ (kq:Nat) (x3_1:Bool),v3=.bool x3_1∧U (wz.j0 kq x3_1 a0_0 a0_1 a0_2 a0_3=some r)∧U (kq≤k)∧U (wc.heap[gb101]? = some (.cells #[.int .i64 a0_0,.int .i64 a0_1,.string a0_2,.string a0_3] 34 (0,0)))∧U (Below w.heap.size w wc))
 case first =>
  have H:=HC2.out
  clear HC2
  by_cases c4:a0_2.toList=([]:List UInt8)
  ·rw[if_pos c4] at H
   have c4b0:(a0_2.toList == ([]:List UInt8))=true:=beq_iff_eq.mpr c4
   have c4b1:(a0_2.toList != ([]:List UInt8))=false:=bne_eq_false_iff_eq.mpr c4
   clear c4
   (first|rw[c4b0]|(simp only[i64_w,i32_w];rw[c4b0])|skip)
   have H':=U.mk H
   clear H
   have hcz5_0:w3.cell? ⟨gb101,0,none⟩ = some (.int .i64 a0_0):=(qj BK101.out 0).trans rfl
   have hcz5_1:w3.cell? ⟨gb101,1,none⟩ = some (.int .i64 a0_1):=(qj BK101.out 1).trans rfl
   have hcz5_2:w3.cell? ⟨gb101,2,none⟩ = some (.string a0_2):=(qj BK101.out 2).trans rfl
   have hcz5_3:w3.cell? ⟨gb101,3,none⟩ = some (.string a0_3):=(qj BK101.out 3).trans rfl
   have hfz5_0:=qz BK101.out 0
   have hfz5_1:=qz BK101.out 1
   have hfz5_2:=qz BK101.out 2
   have hfz5_3:=qz BK101.out 3
   go_wp2
   repeat(go_quiet (fail);try go_wp2)
   go_meet
   case rel=>exact⟨_,((a0_3.toList == ([]:List UInt8))),(by first|rfl|(simp;done)|(simp[*];done)|(generalize ByteArray.toList _=l_;cases l_ <;> first|rfl|(simp;done))),H',⟨by first|omega|exact Nat.le_refl _⟩,⟨by(with_reducible repeat(first|refine qw ?_ _|refine qx ?_|refine qv ?_ _));exact BK101.out⟩,⟨by repeat(first|(with_reducible first|exact HB.out|apply G|apply J|apply qq|refine qk ?_ GE101.out)|exact HB.out)⟩⟩
  ·rw[if_neg c4] at H
   have c4b0:(a0_2.toList == ([]:List UInt8))=false:=beq_eq_false_iff_ne.mpr c4
   have c4b1:(a0_2.toList != ([]:List UInt8))=true:=bne_iff_ne.mpr c4
   (first|rw[c4b0]|(simp only[i64_w,i32_w];rw[c4b0])|skip)
   have H':=U.mk H
   clear H
   have hcz6_0:w3.cell? ⟨gb101,0,none⟩ = some (.int .i64 a0_0):=(qj BK101.out 0).trans rfl
   have hcz6_1:w3.cell? ⟨gb101,1,none⟩ = some (.int .i64 a0_1):=(qj BK101.out 1).trans rfl
   have hcz6_2:w3.cell? ⟨gb101,2,none⟩ = some (.string a0_2):=(qj BK101.out 2).trans rfl
   have hcz6_3:w3.cell? ⟨gb101,3,none⟩ = some (.string a0_3):=(qj BK101.out 3).trans rfl
   have hfz6_0:=qz BK101.out 0
   have hfz6_1:=qz BK101.out 1
   have hfz6_2:=qz BK101.out 2
   have hfz6_3:=qz BK101.out 3
   go_wp2
   repeat(go_quiet (fail);try go_wp2)
   go_meet
   case rel=>exact⟨_,(false),(by first|rfl|(simp;done)|(simp[*];done)|(generalize ByteArray.toList _=l_;cases l_ <;> first|rfl|(simp;done))),H',⟨by first|omega|exact Nat.le_refl _⟩,⟨by(with_reducible repeat(first|refine qw ?_ _|refine qx ?_|refine qv ?_ _));exact BK101.out⟩,⟨by repeat(first|(with_reducible first|exact HB.out|apply G|apply J|apply qq|refine qk ?_ GE101.out)|exact HB.out)⟩⟩
 case rest =>
  clear HC2
  try clear p2
  try clear c4
  try clear c4b0
  try clear c4b1
  try clear hcz5_0
  try clear hcz5_1
  try clear hcz5_2
  try clear hcz5_3
  try clear hcz6_0
  try clear hcz6_1
  try clear hcz6_2
  try clear hcz6_3
  try clear hfz5_0
  try clear hfz5_1
  try clear hfz5_2
  try clear hfz5_3
  try clear hfz6_0
  try clear hfz6_1
  try clear hfz6_2
  try clear hfz6_3
  obtain⟨kq,x3_1,rfl,HA,HJ1,BK101,HB⟩:=hcut
  cases kq with
  | zero=>exact absurd HA.out (by simp[wz.j0])
  | succ kj1 =>
   have H:=HA.out
   clear HA
   simp only[wz.j0] at H
   by_cases c7:a0_0=1
   ·rw[if_pos c7] at H
    have c7b0:(a0_0 == 1)=true:=beq_iff_eq.mpr c7
    have c7b1:(a0_0 != 1)=false:=bne_eq_false_iff_eq.mpr c7
    clear c7
    by_cases c8:x3_1=true
    ·subst c8
     have H1:(if a0_1=0 then(some true) else(some (a0_1 == 1)))=some r:=by rw[if_pos rfl] at H;exact H
     clear H
     have H:=H1
     clear H1
     by_cases c9:a0_1=0
     ·rw[if_pos c9] at H
      have c9b0:(a0_1 == 0)=true:=beq_iff_eq.mpr c9
      have c9b1:(a0_1 != 0)=false:=bne_eq_false_iff_eq.mpr c9
      clear c9
      obtain rfl:=Option.some.inj H
      have hcz10_0:wc.cell? ⟨gb101,0,none⟩ = some (.int .i64 a0_0):=(qj BK101.out 0).trans rfl
      have hcz10_1:wc.cell? ⟨gb101,1,none⟩ = some (.int .i64 a0_1):=(qj BK101.out 1).trans rfl
      have hcz10_2:wc.cell? ⟨gb101,2,none⟩ = some (.string a0_2):=(qj BK101.out 2).trans rfl
      have hcz10_3:wc.cell? ⟨gb101,3,none⟩ = some (.string a0_3):=(qj BK101.out 3).trans rfl
      have hfz10_0:=qz BK101.out 0
      have hfz10_1:=qz BK101.out 1
      have hfz10_2:=qz BK101.out 2
      have hfz10_3:=qz BK101.out 3
      go_wp2
      repeat(go_quiet (fail);try go_wp2)
      go_ret
      exact⟨by first|rfl|(simp[*,jv,jk] <;> rfl),by repeat(first|(with_reducible first|exact HB.out|apply G|apply J|apply qq|refine qk ?_ GE101.out)|exact HB.out)⟩
     ·rw[if_neg c9] at H
      have c9b0:(a0_1 == 0)=false:=beq_eq_false_iff_ne.mpr c9
      have c9b1:(a0_1 != 0)=true:=bne_iff_ne.mpr c9
      obtain rfl:=Option.some.inj H
      have hcz11_0:wc.cell? ⟨gb101,0,none⟩ = some (.int .i64 a0_0):=(qj BK101.out 0).trans rfl
      have hcz11_1:wc.cell? ⟨gb101,1,none⟩ = some (.int .i64 a0_1):=(qj BK101.out 1).trans rfl
      have hcz11_2:wc.cell? ⟨gb101,2,none⟩ = some (.string a0_2):=(qj BK101.out 2).trans rfl
      have hcz11_3:wc.cell? ⟨gb101,3,none⟩ = some (.string a0_3):=(qj BK101.out 3).trans rfl
      have hfz11_0:=qz BK101.out 0
      have hfz11_1:=qz BK101.out 1
      have hfz11_2:=qz BK101.out 2
      have hfz11_3:=qz BK101.out 3
      go_wp2
      repeat(go_quiet (fail);try go_wp2)
      go_ret
      exact⟨by first|rfl|(simp[*,jv,jk] <;> rfl),by repeat(first|(with_reducible first|exact HB.out|apply G|apply J|apply qq|refine qk ?_ GE101.out)|exact HB.out)⟩
    ·replace c8:=jq9.mpr c8
     subst c8
     have H1:(some false)=some r:=by rw[if_neg (show ¬ (false=true) by decide)] at H;exact H
     clear H
     have H:=H1
     clear H1
     obtain rfl:=Option.some.inj H
     have hcz12_0:wc.cell? ⟨gb101,0,none⟩ = some (.int .i64 a0_0):=(qj BK101.out 0).trans rfl
     have hcz12_1:wc.cell? ⟨gb101,1,none⟩ = some (.int .i64 a0_1):=(qj BK101.out 1).trans rfl
     have hcz12_2:wc.cell? ⟨gb101,2,none⟩ = some (.string a0_2):=(qj BK101.out 2).trans rfl
     have hcz12_3:wc.cell? ⟨gb101,3,none⟩ = some (.string a0_3):=(qj BK101.out 3).trans rfl
     have hfz12_0:=qz BK101.out 0
     have hfz12_1:=qz BK101.out 1
     have hfz12_2:=qz BK101.out 2
     have hfz12_3:=qz BK101.out 3
     go_wp2
     repeat(go_quiet (fail);try go_wp2)
     go_ret
     exact⟨by first|rfl|(simp[*,jv,jk] <;> rfl),by repeat(first|(with_reducible first|exact HB.out|apply G|apply J|apply qq|refine qk ?_ GE101.out)|exact HB.out)⟩
   ·rw[if_neg c7] at H
    have c7b0:(a0_0 == 1)=false:=beq_eq_false_iff_ne.mpr c7
    have c7b1:(a0_0 != 1)=true:=bne_iff_ne.mpr c7
    have HC13:=U.mk H
    clear H
    have hcz14_0:wc.cell? ⟨gb101,0,none⟩ = some (.int .i64 a0_0):=(qj BK101.out 0).trans rfl
    have hcz14_1:wc.cell? ⟨gb101,1,none⟩ = some (.int .i64 a0_1):=(qj BK101.out 1).trans rfl
    have hcz14_2:wc.cell? ⟨gb101,2,none⟩ = some (.string a0_2):=(qj BK101.out 2).trans rfl
    have hcz14_3:wc.cell? ⟨gb101,3,none⟩ = some (.string a0_3):=(qj BK101.out 3).trans rfl
    have hfz14_0:=qz BK101.out 0
    have hfz14_1:=qz BK101.out 1
    have hfz14_2:=qz BK101.out 2
    have hfz14_3:=qz BK101.out 3
    go_upto_if 29 with (fail)
    repeat(go_quiet (fail);go_upto_if 29 with (fail))
    go_cut [29] (fun v29 wc=>∃ (kq:Nat) (x29_12:Bool),v29=.bool x29_12∧U (wz.j1 kq x3_1 a0_0 x29_12 a0_0 a0_1 a0_2 a0_3=some r)∧U (kq≤kj1)∧U (wc.heap[gb101]? = some (.cells #[.int .i64 a0_0,.int .i64 a0_1,.string a0_2,.string a0_3] 34 (0,0)))∧U (Below w.heap.size w wc))
    case first =>
     have H:=HC13.out
     clear HC13
     by_cases c15:a0_0=2
     ·rw[if_pos c15] at H
      have c15b0:(a0_0 == 2)=true:=beq_iff_eq.mpr c15
      have c15b1:(a0_0 != 2)=false:=bne_eq_false_iff_eq.mpr c15
      clear c15
      (first|rw[c15b0]|(simp only[i64_w,i32_w];rw[c15b0])|skip)
      have H':=U.mk H
      clear H
      go_wp2
      repeat(go_quiet (fail);try go_wp2)
      go_meet
      case rel=>exact⟨_,((a0_0 == 2)),(by first|rfl|(simp;done)|(simp[*];done)|(generalize ByteArray.toList _=l_;cases l_ <;> first|rfl|(simp;done))),H',⟨by have:=HJ1.out;first|omega|exact Nat.le_refl _⟩,⟨by(with_reducible repeat(first|refine qw ?_ _|refine qx ?_|refine qv ?_ _));exact BK101.out⟩,⟨by repeat(first|(with_reducible first|exact HB.out|apply G|apply J|apply qq|refine qk ?_ GE101.out)|exact HB.out)⟩⟩
     ·rw[if_neg c15] at H
      have c15b0:(a0_0 == 2)=false:=beq_eq_false_iff_ne.mpr c15
      have c15b1:(a0_0 != 2)=true:=bne_iff_ne.mpr c15
      (first|rw[c15b0]|(simp only[i64_w,i32_w];rw[c15b0])|skip)
      have H':=U.mk H
      clear H
      go_wp2
      repeat(go_quiet (fail);try go_wp2)
      go_meet
      case rel=>exact⟨_,((a0_0 == 5)),(by first|rfl|(simp;done)|(simp[*];done)|(generalize ByteArray.toList _=l_;cases l_ <;> first|rfl|(simp;done))),H',⟨by have:=HJ1.out;first|omega|exact Nat.le_refl _⟩,⟨by(with_reducible repeat(first|refine qw ?_ _|refine qx ?_|refine qv ?_ _));exact BK101.out⟩,⟨by repeat(first|(with_reducible first|exact HB.out|apply G|apply J|apply qq|refine qk ?_ GE101.out)|exact HB.out)⟩⟩
    case rest =>
     clear HC13
     try clear c1
     try clear p2
     try clear c4
     try clear c4b0
     try clear c4b1
     try clear c7
     try clear c7b0
     try clear c7b1
     try clear c8
     try clear c9
     try clear c9b0
     try clear c9b1
     try clear c15
     try clear c15b0
     try clear c15b1
     try clear hcz10_0
     try clear hcz10_1
     try clear hcz10_2
     try clear hcz10_3
     try clear hcz11_0
     try clear hcz11_1
     try clear hcz11_2
     try clear hcz11_3
     try clear hcz12_0
     try clear hcz12_1
     try clear hcz12_2
     try clear hcz12_3
     try clear hcz14_0
     try clear hcz14_1
     try clear hcz14_2
     try clear hcz14_3
     try clear hcz5_0
     try clear hcz5_1
     try clear hcz5_2
     try clear hcz5_3
     try clear hcz6_0
     try clear hcz6_1
     try clear hcz6_2
     try clear hcz6_3
     try clear hfz10_0
     try clear hfz10_1
     try clear hfz10_2
     try clear hfz10_3
     try clear hfz11_0
     try clear hfz11_1
     try clear hfz11_2
     try clear hfz11_3
     try clear hfz12_0
     try clear hfz12_1
     try clear hfz12_2
     try clear hfz12_3
     try clear hfz14_0
     try clear hfz14_1
     try clear hfz14_2
     try clear hfz14_3
     try clear hfz5_0
     try clear hfz5_1
     try clear hfz5_2
     try clear hfz5_3
     try clear hfz6_0
     try clear hfz6_1
     try clear hfz6_2
     try clear hfz6_3
     try clear p2
     obtain⟨kq,x29_12,rfl,HA,HJ12,BK101,HB⟩:=hcut
     cases kq with
     | zero=>exact absurd HA.out (by simp[wz.j1])
     | succ kj12 =>
      have H:=HA.out
      clear HA
      simp only[wz.j1] at H
      by_cases c16:x29_12=true
      ·subst c16
       have H1:(some x3_1)=some r:=by rw[if_pos rfl] at H;exact H
       clear H
       have H:=H1
       clear H1
       obtain rfl:=Option.some.inj H
       go_wp2
       repeat(go_quiet (fail);try go_wp2)
       go_ret
       exact⟨by first|rfl|(simp[*,jv,jk] <;> rfl),by repeat(first|(with_reducible first|exact HB.out|apply G|apply J|apply qq|refine qk ?_ GE101.out)|exact HB.out)⟩
      ·replace c16:=jq9.mpr c16
       subst c16
       have H1:(if a0_0=3 then(if a0_1=0 then(if a0_3.toList=([]:List UInt8) then((xx.f kj12 a0_2 0 200).bind fun t102=>(some t102)) else(some false)) else(some false)) else(if a0_0=4 then(if a0_1=0 then((wv.f kj12 a0_3).bind fun t103=>(if t103=true then((xx.f kj12 a0_2 1 200).bind fun t104=>(some t104)) else(some false))) else(some false)) else(if a0_0=6 then(if x3_1=true then(if a0_1 < 0 then(some false) else(if (Int.tmod a0_1 64)≤32 then(if (wrap64 (Int.tdiv a0_1 64)) < 4294967296 then(if 0≤(wrap64 (32 - (Int.tmod a0_1 64))) then(if (shl .i64 1 (wrap64 (32 - (Int.tmod a0_1 64))))=0 then(none) else(some ((Int.tmod (wrap64 (Int.tdiv a0_1 64)) (shl .i64 1 (wrap64 (32 - (Int.tmod a0_1 64))))) == 0))) else(none)) else(some false)) else(some false))) else(some false)) else(if a0_0=7 then(if x3_1=true then(if a0_1 ≥ (-100000000000) then(some (decide (a0_1≤100000000000))) else(some false)) else(some false)) else(some false)))))=some r:=by rw[if_neg (show ¬ (false=true) by decide)] at H;exact H
       clear H
       have H:=H1
       clear H1
       by_cases c17:a0_0=3
       ·rw[if_pos c17] at H
        have c17b0:(a0_0 == 3)=true:=beq_iff_eq.mpr c17
        have c17b1:(a0_0 != 3)=false:=bne_eq_false_iff_eq.mpr c17
        clear c17
        by_cases c18:a0_1=0
        ·rw[if_pos c18] at H
         have c18b0:(a0_1 == 0)=true:=beq_iff_eq.mpr c18
         have c18b1:(a0_1 != 0)=false:=bne_eq_false_iff_eq.mpr c18
         clear c18
         by_cases c19:a0_3.toList=([]:List UInt8)
         ·rw[if_pos c19] at H
          have c19b0:(a0_3.toList == ([]:List UInt8))=true:=beq_iff_eq.mpr c19
          have c19b1:(a0_3.toList != ([]:List UInt8))=false:=bne_eq_false_iff_eq.mpr c19
          clear c19
          replace H:=jq8.mp H
          obtain⟨t102,A200,H⟩:=H
          replace H:(some t102)=some r:=H
          have A20:=U.mk A200
          clear A200
          obtain rfl:=Option.some.inj H
          have hcz21_0:wc.cell? ⟨gb101,0,none⟩ = some (.int .i64 a0_0):=(qj BK101.out 0).trans rfl
          have hcz21_1:wc.cell? ⟨gb101,1,none⟩ = some (.int .i64 a0_1):=(qj BK101.out 1).trans rfl
          have hcz21_2:wc.cell? ⟨gb101,2,none⟩ = some (.string a0_2):=(qj BK101.out 2).trans rfl
          have hcz21_3:wc.cell? ⟨gb101,3,none⟩ = some (.string a0_3):=(qj BK101.out 3).trans rfl
          have hfz21_0:=qz BK101.out 0
          have hfz21_1:=qz BK101.out 1
          have hfz21_2:=qz BK101.out 2
          have hfz21_3:=qz BK101.out 3
          go_wp2_with (first|(go_at_call 128;(with_reducible refine(xx.calls kj12 a0_2 0 200 t102 _ A20.out).mono ?_);rintro e w' ⟨rfl,⟨nd,rfl⟩⟩;(try first|exact⟨rfl,_,World.drewN_drewN _ _ _⟩|exact⟨rfl,_,Eq.trans (World.drewN_drewN _ _ _) (congrArg (World.drewN _) (Nat.add_assoc _ _ _))⟩)))
          repeat(go_quiet (first|(go_at_call 128;(with_reducible refine(xx.calls kj12 a0_2 0 200 t102 _ A20.out).mono ?_);rintro e w' ⟨rfl,⟨nd,rfl⟩⟩;(try first|exact⟨rfl,_,World.drewN_drewN _ _ _⟩|exact⟨rfl,_,Eq.trans (World.drewN_drewN _ _ _) (congrArg (World.drewN _) (Nat.add_assoc _ _ _))⟩)));try go_wp2_with (first|(go_at_call 128;(with_reducible refine(xx.calls kj12 a0_2 0 200 t102 _ A20.out).mono ?_);rintro e w' ⟨rfl,⟨nd,rfl⟩⟩;(try first|exact⟨rfl,_,World.drewN_drewN _ _ _⟩|exact⟨rfl,_,Eq.trans (World.drewN_drewN _ _ _) (congrArg (World.drewN _) (Nat.add_assoc _ _ _))⟩))))
          go_ret
          exact⟨by first|rfl|(simp[*,jv,jk] <;> rfl),by repeat(first|(with_reducible first|exact HB.out|apply G|apply J|apply qq|refine qk ?_ GE101.out)|exact HB.out)⟩
         ·rw[if_neg c19] at H
          have c19b0:(a0_3.toList == ([]:List UInt8))=false:=beq_eq_false_iff_ne.mpr c19
          have c19b1:(a0_3.toList != ([]:List UInt8))=true:=bne_iff_ne.mpr c19
          obtain rfl:=Option.some.inj H
          have hcz22_0:wc.cell? ⟨gb101,0,none⟩ = some (.int .i64 a0_0):=(qj BK101.out 0).trans rfl
          have hcz22_1:wc.cell? ⟨gb101,1,none⟩ = some (.int .i64 a0_1):=(qj BK101.out 1).trans rfl
          have hcz22_2:wc.cell? ⟨gb101,2,none⟩ = some (.string a0_2):=(qj BK101.out 2).trans rfl
          have hcz22_3:wc.cell? ⟨gb101,3,none⟩ = some (.string a0_3):=(qj BK101.out 3).trans rfl
          have hfz22_0:=qz BK101.out 0
          have hfz22_1:=qz BK101.out 1
          have hfz22_2:=qz BK101.out 2
          have hfz22_3:=qz BK101.out 3
          go_wp2
          repeat(go_quiet (fail);try go_wp2)
          go_ret
          exact⟨by first|rfl|(simp[*,jv,jk] <;> rfl),by repeat(first|(with_reducible first|exact HB.out|apply G|apply J|apply qq|refine qk ?_ GE101.out)|exact HB.out)⟩
        ·rw[if_neg c18] at H
         have c18b0:(a0_1 == 0)=false:=beq_eq_false_iff_ne.mpr c18
         have c18b1:(a0_1 != 0)=true:=bne_iff_ne.mpr c18
         obtain rfl:=Option.some.inj H
         have hcz23_0:wc.cell? ⟨gb101,0,none⟩ = some (.int .i64 a0_0):=(qj BK101.out 0).trans rfl
         have hcz23_1:wc.cell? ⟨gb101,1,none⟩ = some (.int .i64 a0_1):=(qj BK101.out 1).trans rfl
         have hcz23_2:wc.cell? ⟨gb101,2,none⟩ = some (.string a0_2):=(qj BK101.out 2).trans rfl
         have hcz23_3:wc.cell? ⟨gb101,3,none⟩ = some (.string a0_3):=(qj BK101.out 3).trans rfl
         have hfz23_0:=qz BK101.out 0
         have hfz23_1:=qz BK101.out 1
         have hfz23_2:=qz BK101.out 2
         have hfz23_3:=qz BK101.out 3
         go_wp2
         repeat(go_quiet (fail);try go_wp2)
         go_ret
         exact⟨by first|rfl|(simp[*,jv,jk] <;> rfl),by repeat(first|(with_reducible first|exact HB.out|apply G|apply J|apply qq|refine qk ?_ GE101.out)|exact HB.out)⟩
       ·rw[if_neg c17] at H
        have c17b0:(a0_0 == 3)=false:=beq_eq_false_iff_ne.mpr c17
        have c17b1:(a0_0 != 3)=true:=bne_iff_ne.mpr c17
        by_cases c24:a0_0=4
        ·rw[if_pos c24] at H
         have c24b0:(a0_0 == 4)=true:=beq_iff_eq.mpr c24
         have c24b1:(a0_0 != 4)=false:=bne_eq_false_iff_eq.mpr c24
         clear c24
         by_cases c25:a0_1=0
         ·rw[if_pos c25] at H
          have c25b0:(a0_1 == 0)=true:=beq_iff_eq.mpr c25
          have c25b1:(a0_1 != 0)=false:=bne_eq_false_iff_eq.mpr c25
          clear c25
          replace H:=jq8.mp H
          obtain⟨t103,A260,H⟩:=H
          try dsimp only at H
          have A26:=U.mk A260
          clear A260
          by_cases c27:t103=true
          ·subst c27
           have H1:((xx.f kj12 a0_2 1 200).bind fun t104=>(some t104))=some r:=by rw[if_pos rfl] at H;exact H
           clear H
           have H:=H1
           clear H1
           replace H:=jq8.mp H
           obtain⟨t104,A280,H⟩:=H
           replace H:(some t104)=some r:=H
           have A28:=U.mk A280
           clear A280
           obtain rfl:=Option.some.inj H
           have hcz29_0:wc.cell? ⟨gb101,0,none⟩ = some (.int .i64 a0_0):=(qj BK101.out 0).trans rfl
           have hcz29_1:wc.cell? ⟨gb101,1,none⟩ = some (.int .i64 a0_1):=(qj BK101.out 1).trans rfl
           have hcz29_2:wc.cell? ⟨gb101,2,none⟩ = some (.string a0_2):=(qj BK101.out 2).trans rfl
           have hcz29_3:wc.cell? ⟨gb101,3,none⟩ = some (.string a0_3):=(qj BK101.out 3).trans rfl
           have hfz29_0:=qz BK101.out 0
           have hfz29_1:=qz BK101.out 1
           have hfz29_2:=qz BK101.out 2
           have hfz29_3:=qz BK101.out 3
           go_wp2_with (first|(go_at_call 129;(with_reducible refine(wv.calls kj12 a0_3 true _ A26.out).mono ?_);rintro e w' ⟨rfl,⟨nd,rfl⟩⟩;(try first|exact⟨rfl,_,World.drewN_drewN _ _ _⟩|exact⟨rfl,_,Eq.trans (World.drewN_drewN _ _ _) (congrArg (World.drewN _) (Nat.add_assoc _ _ _))⟩))|(go_at_call 128;(with_reducible refine(xx.calls kj12 a0_2 1 200 t104 _ A28.out).mono ?_);rintro e w' ⟨rfl,⟨nd,rfl⟩⟩;(try first|exact⟨rfl,_,World.drewN_drewN _ _ _⟩|exact⟨rfl,_,Eq.trans (World.drewN_drewN _ _ _) (congrArg (World.drewN _) (Nat.add_assoc _ _ _))⟩)))
           repeat(go_quiet (first|(go_at_call 129;(with_reducible refine(wv.calls kj12 a0_3 true _ A26.out).mono ?_);rintro e w' ⟨rfl,⟨nd,rfl⟩⟩;(try first|exact⟨rfl,_,World.drewN_drewN _ _ _⟩|exact⟨rfl,_,Eq.trans (World.drewN_drewN _ _ _) (congrArg (World.drewN _) (Nat.add_assoc _ _ _))⟩))|(go_at_call 128;(with_reducible refine(xx.calls kj12 a0_2 1 200 t104 _ A28.out).mono ?_);rintro e w' ⟨rfl,⟨nd,rfl⟩⟩;(try first|exact⟨rfl,_,World.drewN_drewN _ _ _⟩|exact⟨rfl,_,Eq.trans (World.drewN_drewN _ _ _) (congrArg (World.drewN _) (Nat.add_assoc _ _ _))⟩)));try go_wp2_with (first|(go_at_call 129;(with_reducible refine(wv.calls kj12 a0_3 true _ A26.out).mono ?_);rintro e w' ⟨rfl,⟨nd,rfl⟩⟩;(try first|exact⟨rfl,_,World.drewN_drewN _ _ _⟩|exact⟨rfl,_,Eq.trans (World.drewN_drewN _ _ _) (congrArg (World.drewN _) (Nat.add_assoc _ _ _))⟩))|(go_at_call 128;(with_reducible refine(xx.calls kj12 a0_2 1 200 t104 _ A28.out).mono ?_);rintro e w' ⟨rfl,⟨nd,rfl⟩⟩;(try first|exact⟨rfl,_,World.drewN_drewN _ _ _⟩|exact⟨rfl,_,Eq.trans (World.drewN_drewN _ _ _) (congrArg (World.drewN _) (Nat.add_assoc _ _ _))⟩))))
           go_ret
           exact⟨by first|rfl|(simp[*,jv,jk] <;> rfl),by repeat(first|(with_reducible first|exact HB.out|apply G|apply J|apply qq|refine qk ?_ GE101.out)|exact HB.out)⟩
          ·replace c27:=jq9.mpr c27
           subst c27
           have H1:(some false)=some r:=by rw[if_neg (show ¬ (false=true) by decide)] at H;exact H
           clear H
           have H:=H1
           clear H1
           obtain rfl:=Option.some.inj H
           have hcz30_0:wc.cell? ⟨gb101,0,none⟩ = some (.int .i64 a0_0):=(qj BK101.out 0).trans rfl
           have hcz30_1:wc.cell? ⟨gb101,1,none⟩ = some (.int .i64 a0_1):=(qj BK101.out 1).trans rfl
           have hcz30_2:wc.cell? ⟨gb101,2,none⟩ = some (.string a0_2):=(qj BK101.out 2).trans rfl
           have hcz30_3:wc.cell? ⟨gb101,3,none⟩ = some (.string a0_3):=(qj BK101.out 3).trans rfl
           have hfz30_0:=qz BK101.out 0
           have hfz30_1:=qz BK101.out 1
           have hfz30_2:=qz BK101.out 2
           have hfz30_3:=qz BK101.out 3
           go_wp2_with (first|(go_at_call 129;(with_reducible refine(wv.calls kj12 a0_3 false _ A26.out).mono ?_);rintro e w' ⟨rfl,⟨nd,rfl⟩⟩;(try first|exact⟨rfl,_,World.drewN_drewN _ _ _⟩|exact⟨rfl,_,Eq.trans (World.drewN_drewN _ _ _) (congrArg (World.drewN _) (Nat.add_assoc _ _ _))⟩)))
           repeat(go_quiet (first|(go_at_call 129;(with_reducible refine(wv.calls kj12 a0_3 false _ A26.out).mono ?_);rintro e w' ⟨rfl,⟨nd,rfl⟩⟩;(try first|exact⟨rfl,_,World.drewN_drewN _ _ _⟩|exact⟨rfl,_,Eq.trans (World.drewN_drewN _ _ _) (congrArg (World.drewN _) (Nat.add_assoc _ _ _))⟩)));try go_wp2_with (first|(go_at_call 129;(with_reducible refine(wv.calls kj12 a0_3 false _ A26.out).mono ?_);rintro e w' ⟨rfl,⟨nd,rfl⟩⟩;(try first|exact⟨rfl,_,World.drewN_drewN _ _ _⟩|exact⟨rfl,_,Eq.trans (World.drewN_drewN _ _ _) (congrArg (World.drewN _) (Nat.add_assoc _ _ _))⟩))))
           go_ret
           exact⟨by first|rfl|(simp[*,jv,jk] <;> rfl),by repeat(first|(with_reducible first|exact HB.out|apply G|apply J|apply qq|refine qk ?_ GE101.out)|exact HB.out)⟩
         ·rw[if_neg c25] at H
          have c25b0:(a0_1 == 0)=false:=beq_eq_false_iff_ne.mpr c25
          have c25b1:(a0_1 != 0)=true:=bne_iff_ne.mpr c25
          obtain rfl:=Option.some.inj H
          have hcz31_0:wc.cell? ⟨gb101,0,none⟩ = some (.int .i64 a0_0):=(qj BK101.out 0).trans rfl
          have hcz31_1:wc.cell? ⟨gb101,1,none⟩ = some (.int .i64 a0_1):=(qj BK101.out 1).trans rfl
          have hcz31_2:wc.cell? ⟨gb101,2,none⟩ = some (.string a0_2):=(qj BK101.out 2).trans rfl
          have hcz31_3:wc.cell? ⟨gb101,3,none⟩ = some (.string a0_3):=(qj BK101.out 3).trans rfl
          have hfz31_0:=qz BK101.out 0
          have hfz31_1:=qz BK101.out 1
          have hfz31_2:=qz BK101.out 2
          have hfz31_3:=qz BK101.out 3
          go_wp2
          repeat(go_quiet (fail);try go_wp2)
          go_ret
          exact⟨by first|rfl|(simp[*,jv,jk] <;> rfl),by repeat(first|(with_reducible first|exact HB.out|apply G|apply J|apply qq|refine qk ?_ GE101.out)|exact HB.out)⟩
        ·rw[if_neg c24] at H
         have c24b0:(a0_0 == 4)=false:=beq_eq_false_iff_ne.mpr c24
         have c24b1:(a0_0 != 4)=true:=bne_iff_ne.mpr c24
         by_cases c32:a0_0=6
         ·rw[if_pos c32] at H
          have c32b0:(a0_0 == 6)=true:=beq_iff_eq.mpr c32
          have c32b1:(a0_0 != 6)=false:=bne_eq_false_iff_eq.mpr c32
          clear c32
          by_cases c33:x3_1=true
          ·subst c33
           have H1:(if a0_1 < 0 then(some false) else(if (Int.tmod a0_1 64)≤32 then(if (wrap64 (Int.tdiv a0_1 64)) < 4294967296 then(if 0≤(wrap64 (32 - (Int.tmod a0_1 64))) then(if (shl .i64 1 (wrap64 (32 - (Int.tmod a0_1 64))))=0 then(none) else(some ((Int.tmod (wrap64 (Int.tdiv a0_1 64)) (shl .i64 1 (wrap64 (32 - (Int.tmod a0_1 64))))) == 0))) else(none)) else(some false)) else(some false)))=some r:=by rw[if_pos rfl] at H;exact H
           clear H
           have H:=H1
           clear H1
           by_cases c34:a0_1 < 0
           ·rw[if_pos c34] at H
            have c34b0:decide (a0_1 < 0)=true:=decide_eq_true c34
            clear c34
            obtain rfl:=Option.some.inj H
            have hcz35_0:wc.cell? ⟨gb101,0,none⟩ = some (.int .i64 a0_0):=(qj BK101.out 0).trans rfl
            have hcz35_1:wc.cell? ⟨gb101,1,none⟩ = some (.int .i64 a0_1):=(qj BK101.out 1).trans rfl
            have hcz35_2:wc.cell? ⟨gb101,2,none⟩ = some (.string a0_2):=(qj BK101.out 2).trans rfl
            have hcz35_3:wc.cell? ⟨gb101,3,none⟩ = some (.string a0_3):=(qj BK101.out 3).trans rfl
            have hfz35_0:=qz BK101.out 0
            have hfz35_1:=qz BK101.out 1
            have hfz35_2:=qz BK101.out 2
            have hfz35_3:=qz BK101.out 3
            go_wp2
            repeat(go_quiet (fail);try go_wp2)
            go_ret
            exact⟨by first|rfl|(simp[*,jv,jk] <;> rfl),by repeat(first|(with_reducible first|exact HB.out|apply G|apply J|apply qq|refine qk ?_ GE101.out)|exact HB.out)⟩
           ·rw[if_neg c34] at H
            have c34b0:decide (a0_1 < 0)=false:=decide_eq_false c34
            clear c34
            by_cases c36:(Int.tmod a0_1 64)≤32
            ·rw[if_pos c36] at H
             have c36b0:decide ((Int.tmod a0_1 64)≤32)=true:=decide_eq_true c36
             clear c36
             by_cases c37:(wrap64 (Int.tdiv a0_1 64)) < 4294967296
             ·rw[if_pos c37] at H
              have c37b0:decide ((wrap64 (Int.tdiv a0_1 64)) < 4294967296)=true:=decide_eq_true c37
              clear c37
              obtain⟨ji38,hji38⟩ : ∃ j_:Int,(wrap64 (32 - (Int.tmod a0_1 64)))=j_:=⟨_,rfl⟩
              replace H:(if 0≤(ji38) then(if (shl .i64 1 (ji38))=0 then(none) else(some ((Int.tmod (wrap64 (Int.tdiv a0_1 64)) (shl .i64 1 (ji38))) == 0))) else(none))=some r:=by first|(rw[hji38] at H;exact H)|(simp only[hji38] at H ⊢;exact H)
              have hji38w:(IntKind.i64.wrap (32 - (Int.tmod a0_1 64)))=ji38:=(i64_w _).trans hji38
              by_cases c39 : 0≤(ji38)
              ·rw[if_pos c39] at H
               have c39b0:=eq_true c39
               have c39b1:decide (0≤(ji38))=true:=decide_eq_true c39
               clear c39
               obtain⟨ji40,hji40⟩ : ∃ j_:Int,(shl .i64 1 (ji38))=j_:=⟨_,rfl⟩
               replace H:(if (ji40)=0 then(none) else(some ((Int.tmod (wrap64 (Int.tdiv a0_1 64)) (ji40)) == 0)))=some r:=by first|(rw[hji40] at H;exact H)|(simp only[hji40] at H ⊢;exact H)
               have hji40_:(IntKind.i64.wrap (1 * 2 ^ min (ji38).toNat 64))=ji40:=hji40
               have hji40z:(ji38)≤64→(IntKind.i64.wrap (1 * 2 ^ (ji38).toNat))=ji40:=shl_small hji40
               have hji40u:(IntKind.i64.wrap (2 ^ min (ji38).toNat 64))=ji40:=by have h_:=hji40_;rw[Int.one_mul] at h_;exact h_
               have hji40v:(ji38)≤64→(IntKind.i64.wrap (2 ^ (ji38).toNat))=ji40:=fun hle_=>by have h_:=hji40z hle_;rw[Int.one_mul] at h_;exact h_
               have hji40y:(wrap64 (1 * 2 ^ min (ji38).toNat 64))=ji40:=(i64_w _).symm.trans hji40_
               have hji40x:(ji38)≤64→(wrap64 (1 * 2 ^ (ji38).toNat))=ji40:=fun h_=>(i64_w _).symm.trans (hji40z h_)
               by_cases c41:(ji40)=0
               ·rw[if_pos c41] at H
                exact absurd H (by simp)
               ·rw[if_neg c41] at H
                have c41b0:((ji40) == 0)=false:=beq_eq_false_iff_ne.mpr c41
                have c41b1:((ji40) != 0)=true:=bne_iff_ne.mpr c41
                obtain rfl:=Option.some.inj H
                have hcz42_0:wc.cell? ⟨gb101,0,none⟩ = some (.int .i64 a0_0):=(qj BK101.out 0).trans rfl
                have hcz42_1:wc.cell? ⟨gb101,1,none⟩ = some (.int .i64 a0_1):=(qj BK101.out 1).trans rfl
                have hcz42_2:wc.cell? ⟨gb101,2,none⟩ = some (.string a0_2):=(qj BK101.out 2).trans rfl
                have hcz42_3:wc.cell? ⟨gb101,3,none⟩ = some (.string a0_3):=(qj BK101.out 3).trans rfl
                have hfz42_0:=qz BK101.out 0
                have hfz42_1:=qz BK101.out 1
                have hfz42_2:=qz BK101.out 2
                have hfz42_3:=qz BK101.out 3
                go_wp2
                repeat(go_quiet (fail);try go_wp2)
                go_ret
                exact⟨by first|rfl|(simp[jv,jk] <;> rfl)|(simp only[← hji38,← hji40];first|rfl|(simp[jv,jk] <;> rfl))|(simp[*,jv,jk] <;> rfl),by repeat(first|(with_reducible first|exact HB.out|apply G|apply J|apply qq|refine qk ?_ GE101.out)|exact HB.out)⟩
              ·rw[if_neg c39] at H
               exact absurd H (by simp)
             ·rw[if_neg c37] at H
              have c37b0:decide ((wrap64 (Int.tdiv a0_1 64)) < 4294967296)=false:=decide_eq_false c37
              clear c37
              obtain rfl:=Option.some.inj H
              have hcz43_0:wc.cell? ⟨gb101,0,none⟩ = some (.int .i64 a0_0):=(qj BK101.out 0).trans rfl
              have hcz43_1:wc.cell? ⟨gb101,1,none⟩ = some (.int .i64 a0_1):=(qj BK101.out 1).trans rfl
              have hcz43_2:wc.cell? ⟨gb101,2,none⟩ = some (.string a0_2):=(qj BK101.out 2).trans rfl
              have hcz43_3:wc.cell? ⟨gb101,3,none⟩ = some (.string a0_3):=(qj BK101.out 3).trans rfl
              have hfz43_0:=qz BK101.out 0
              have hfz43_1:=qz BK101.out 1
              have hfz43_2:=qz BK101.out 2
              have hfz43_3:=qz BK101.out 3
              go_wp2
              repeat(go_quiet (fail);try go_wp2)
              go_ret
              exact⟨by first|rfl|(simp[*,jv,jk] <;> rfl),by repeat(first|(with_reducible first|exact HB.out|apply G|apply J|apply qq|refine qk ?_ GE101.out)|exact HB.out)⟩
            ·rw[if_neg c36] at H
             have c36b0:decide ((Int.tmod a0_1 64)≤32)=false:=decide_eq_false c36
             clear c36
             obtain rfl:=Option.some.inj H
             have hcz44_0:wc.cell? ⟨gb101,0,none⟩ = some (.int .i64 a0_0):=(qj BK101.out 0).trans rfl
             have hcz44_1:wc.cell? ⟨gb101,1,none⟩ = some (.int .i64 a0_1):=(qj BK101.out 1).trans rfl
             have hcz44_2:wc.cell? ⟨gb101,2,none⟩ = some (.string a0_2):=(qj BK101.out 2).trans rfl
             have hcz44_3:wc.cell? ⟨gb101,3,none⟩ = some (.string a0_3):=(qj BK101.out 3).trans rfl
             have hfz44_0:=qz BK101.out 0
             have hfz44_1:=qz BK101.out 1
             have hfz44_2:=qz BK101.out 2
             have hfz44_3:=qz BK101.out 3
             go_wp2
             repeat(go_quiet (fail);try go_wp2)
             go_ret
             exact⟨by first|rfl|(simp[*,jv,jk] <;> rfl),by repeat(first|(with_reducible first|exact HB.out|apply G|apply J|apply qq|refine qk ?_ GE101.out)|exact HB.out)⟩
          ·replace c33:=jq9.mpr c33
           subst c33
           have H1:(some false)=some r:=by rw[if_neg (show ¬ (false=true) by decide)] at H;exact H
           clear H
           have H:=H1
           clear H1
           obtain rfl:=Option.some.inj H
           go_wp2
           repeat(go_quiet (fail);try go_wp2)
           go_ret
           exact⟨by first|rfl|(simp[*,jv,jk] <;> rfl),by repeat(first|(with_reducible first|exact HB.out|apply G|apply J|apply qq|refine qk ?_ GE101.out)|exact HB.out)⟩
         ·rw[if_neg c32] at H
          have c32b0:(a0_0 == 6)=false:=beq_eq_false_iff_ne.mpr c32
          have c32b1:(a0_0 != 6)=true:=bne_iff_ne.mpr c32
          by_cases c45:a0_0=7
          ·rw[if_pos c45] at H
           have c45b0:(a0_0 == 7)=true:=beq_iff_eq.mpr c45
           have c45b1:(a0_0 != 7)=false:=bne_eq_false_iff_eq.mpr c45
           clear c45
           by_cases c46:x3_1=true
           ·subst c46
            have H1:(if a0_1 ≥ (-100000000000) then(some (decide (a0_1≤100000000000))) else(some false))=some r:=by rw[if_pos rfl] at H;exact H
            clear H
            have H:=H1
            clear H1
            by_cases c47:a0_1 ≥ (-100000000000)
            ·rw[if_pos c47] at H
             have c47b0:decide ((-100000000000)≤a0_1)=true:=decide_eq_true c47
             clear c47
             obtain rfl:=Option.some.inj H
             have hcz48_0:wc.cell? ⟨gb101,0,none⟩ = some (.int .i64 a0_0):=(qj BK101.out 0).trans rfl
             have hcz48_1:wc.cell? ⟨gb101,1,none⟩ = some (.int .i64 a0_1):=(qj BK101.out 1).trans rfl
             have hcz48_2:wc.cell? ⟨gb101,2,none⟩ = some (.string a0_2):=(qj BK101.out 2).trans rfl
             have hcz48_3:wc.cell? ⟨gb101,3,none⟩ = some (.string a0_3):=(qj BK101.out 3).trans rfl
             have hfz48_0:=qz BK101.out 0
             have hfz48_1:=qz BK101.out 1
             have hfz48_2:=qz BK101.out 2
             have hfz48_3:=qz BK101.out 3
             go_wp2
             repeat(go_quiet (fail);try go_wp2)
             go_ret
             exact⟨by first|rfl|(simp[*,jv,jk] <;> rfl),by repeat(first|(with_reducible first|exact HB.out|apply G|apply J|apply qq|refine qk ?_ GE101.out)|exact HB.out)⟩
            ·rw[if_neg c47] at H
             have c47b0:decide ((-100000000000)≤a0_1)=false:=decide_eq_false c47
             clear c47
             obtain rfl:=Option.some.inj H
             have hcz49_0:wc.cell? ⟨gb101,0,none⟩ = some (.int .i64 a0_0):=(qj BK101.out 0).trans rfl
             have hcz49_1:wc.cell? ⟨gb101,1,none⟩ = some (.int .i64 a0_1):=(qj BK101.out 1).trans rfl
             have hcz49_2:wc.cell? ⟨gb101,2,none⟩ = some (.string a0_2):=(qj BK101.out 2).trans rfl
             have hcz49_3:wc.cell? ⟨gb101,3,none⟩ = some (.string a0_3):=(qj BK101.out 3).trans rfl
             have hfz49_0:=qz BK101.out 0
             have hfz49_1:=qz BK101.out 1
             have hfz49_2:=qz BK101.out 2
             have hfz49_3:=qz BK101.out 3
             go_wp2
             repeat(go_quiet (fail);try go_wp2)
             go_ret
             exact⟨by first|rfl|(simp[*,jv,jk] <;> rfl),by repeat(first|(with_reducible first|exact HB.out|apply G|apply J|apply qq|refine qk ?_ GE101.out)|exact HB.out)⟩
           ·replace c46:=jq9.mpr c46
            subst c46
            have H1:(some false)=some r:=by rw[if_neg (show ¬ (false=true) by decide)] at H;exact H
            clear H
            have H:=H1
            clear H1
            obtain rfl:=Option.some.inj H
            go_wp2
            repeat(go_quiet (fail);try go_wp2)
            go_ret
            exact⟨by first|rfl|(simp[*,jv,jk] <;> rfl),by repeat(first|(with_reducible first|exact HB.out|apply G|apply J|apply qq|refine qk ?_ GE101.out)|exact HB.out)⟩
          ·rw[if_neg c45] at H
           have c45b0:(a0_0 == 7)=false:=beq_eq_false_iff_ne.mpr c45
           have c45b1:(a0_0 != 7)=true:=bne_iff_ne.mpr c45
           obtain rfl:=Option.some.inj H
           go_wp2
           repeat(go_quiet (fail);try go_wp2)
           go_ret
           exact⟨by first|rfl|(simp[*,jv,jk] <;> rfl),by repeat(first|(with_reducible first|exact HB.out|apply G|apply J|apply qq|refine qk ?_ GE101.out)|exact HB.out)⟩
end Go.Proofs.Ytccbjchlcelkgaa.Pr
namespace Go.Proofs.Ytccbjchlcelkgaa.Pr
open Go.RowKit Go.Proofs.YtccbjchlcelkgaaW.PrintWords Go.Proofs.YtccbjchlcelkgaaW.PrintLast Go.Proofs.YtccbjchlcelkgaaW.PrintMore
attribute [local go_sem] max2_int min2_int max_two min_two max_three min_three max_four min_four
set_option linter.unusedVariables false
set_option linter.unusedSimpArgs false
def ww.f (k:Nat) (a0_0:Int) (a0_1:Int) (a0_2:ByteArray) (a0_3:ByteArray):Option (Bool):=(wz.f k a0_0 a0_1 a0_2 a0_3).bind fun t102=>(some (!t102))
theorem ww.mono:∀ a0 a1 a2 a3 k,LeO (ww.f k a0 a1 a2 a3) (ww.f (k + 1) a0 a1 a2 a3):=by
 intro a0 a1 a2 a3 k
 unfold ww.f
 repeat' first
   | (with_reducible exact wz.mono _ _ _ _ _)
   | (with_reducible exact LeO.refl _)
   | (with_reducible exact LeO.none _)
   | (with_reducible refine LeO.ite ?_ ?_)
   | (with_reducible refine LeO.bind ?_ (fun _=>?_))
   | exact wz.mono _ _ _ _ _
   | exact LeO.none _
   | refine LeO.ite ?_ ?_
   | refine LeO.bind ?_ (fun _=>?_)
theorem ww.calls (k:Nat) (a0_0:Int) (a0_1:Int) (a0_2:ByteArray) (a0_3:ByteArray) (r:Bool) (w:World) (h:ww.f k a0_0 a0_1 a0_2 a0_3=some r) :
  Calls Try.prog 185 #[.agg #[.int .i64 a0_0,.int .i64 a0_1,.string a0_2,.string a0_3]] w fun e w'=>e=.returned (.bool r)∧Below w.heap.size w w':=by
 have hu34:=Try.underlying34
 have HB:=U.mk (Below.refl w.heap.size w)
 have H:((wz.f k a0_0 a0_1 a0_2 a0_3).bind fun t102=>(some (!t102)))=some r:=h
 clear h
 replace H:=jq8.mp H
 obtain⟨t102,A20,H⟩:=H
 replace H:(some (!t102))=some r:=H
 have A2:=U.mk A20
 clear A20
 obtain rfl:=Option.some.inj H
 go_enter Try.func185,Try.ntmps185
 go_wp2_with (first|((with_reducible refine gate_dst (N:=1) rfl ?_);refine box_event ?hg (N:=1) ?hd (cs:=#[.int .i64 a0_0,.int .i64 a0_1,.string a0_2,.string a0_3]) (t:=34) ?hr ?_;(case hd=>rfl);(case hg=>rfl);(case hr=>first|(go_simp;done)|(go_simp;rfl));intro gb101 hg w3 hbox hb;have BK101:=U.mk (hbox);have GW101:=U.mk ((by rw[hg];exact(zj (by solve_by_elim only[HB.out,G,J,qq])):w.heap.size≤gb101));have GE101:=U.mk ((by rw[hg];exact(zj (by solve_by_elim only[HB.out,G,J,qq])):w.heap.size≤gb101));replace HB:=U.mk (zz (by solve_by_elim only[HB.out,G,J,qq]) hb);clear hb hbox hg;have hcz4_0:w3.cell? ⟨gb101,0,none⟩ = some (.int .i64 a0_0):=(qj BK101.out 0).trans rfl;have hcz4_1:w3.cell? ⟨gb101,1,none⟩ = some (.int .i64 a0_1):=(qj BK101.out 1).trans rfl;have hcz4_2:w3.cell? ⟨gb101,2,none⟩ = some (.string a0_2):=(qj BK101.out 2).trans rfl;have hcz4_3:w3.cell? ⟨gb101,3,none⟩ = some (.string a0_3):=(qj BK101.out 3).trans rfl;have hfz4_0:=qz BK101.out 0;have hfz4_1:=qz BK101.out 1;have hfz4_2:=qz BK101.out 2;have hfz4_3:=qz BK101.out 3)|((with_reducible refine jw (f:=70) rfl ?_);refine goesL_ (some 4) rfl rfl Try.func70 (by kernel_rfl) rfl #[.agg #[.int .i64 a0_0,.int .i64 a0_1,.string a0_2,.string a0_3]] rfl (by(try simp only[jq0,jq1,jq2]);first|done|rfl|(simp only[jq3,jq4];rfl)) ?_;(with_reducible refine(wz.calls k a0_0 a0_1 a0_2 a0_3 t102 _ A2.out).mono ?_);rintro e w5 ⟨rfl,hb⟩;refine⟨_,rfl,?_⟩;replace BK101:=U.mk (kv (g:=gb101) (o:=.cells #[.int .i64 a0_0,.int .i64 a0_1,.string a0_2,.string a0_3] 34 (0,0)) (by solve_by_elim only[BK101.out,qw,qx,qv]) hb);replace HB:=U.mk (zz (by solve_by_elim (maxDepth:=20) only[HB.out,G,J,qq,qk,GE101.out]) hb);(try clear hb)))
 go_ret
 exact⟨by first|rfl|(simp[*,jv,jk] <;> rfl),by repeat(first|(with_reducible first|exact HB.out|apply G|apply J|apply qq|refine qk ?_ GE101.out)|exact HB.out)⟩
end Go.Proofs.Ytccbjchlcelkgaa.Pr
namespace Go.Proofs.Ytccbjchlcelkgaa.Pr
open Go.RowKit Go.Proofs.YtccbjchlcelkgaaW.PrintWords Go.Proofs.YtccbjchlcelkgaaW.PrintLast Go.Proofs.YtccbjchlcelkgaaW.PrintMore
attribute [local go_sem] max2_int min2_int max_two min_two max_three min_three max_four min_four
set_option linter.unusedVariables false
set_option linter.unusedSimpArgs false
def xz.f (k:Nat) (a0:ByteArray):Option (Bool):=(wv.f k a0).bind fun t101=>(some (!t101))
theorem xz.mono:∀ a0 k,LeO (xz.f k a0) (xz.f (k + 1) a0):=by
 intro a0 k
 unfold xz.f
 repeat' first
   | (with_reducible exact wv.mono _ _)
   | (with_reducible exact LeO.refl _)
   | (with_reducible exact LeO.none _)
   | (with_reducible refine LeO.ite ?_ ?_)
   | (with_reducible refine LeO.bind ?_ (fun _=>?_))
   | exact wv.mono _ _
   | exact LeO.none _
   | refine LeO.ite ?_ ?_
   | refine LeO.bind ?_ (fun _=>?_)
theorem xz.calls (k:Nat) (a0:ByteArray) (r:Bool) (w:World) (h:xz.f k a0=some r) :
  Calls Try.prog 202 #[.string a0] w fun e w'=>e=.returned (.bool r)∧Drawn0 w w':=by
 have H:((wv.f k a0).bind fun t101=>(some (!t101)))=some r:=h
 clear h
 replace H:=jq8.mp H
 obtain⟨t101,A20,H⟩:=H
 replace H:(some (!t101))=some r:=H
 have A2:=U.mk A20
 clear A20
 obtain rfl:=Option.some.inj H
 go_enter Try.func202,Try.ntmps202
 go_wp2_with (first|((with_reducible refine jw (f:=129) rfl ?_);refine goesL_ (some 4) rfl rfl Try.func129 (by kernel_rfl) rfl #[.string a0] rfl (by(try simp only[jq0,jq1,jq2]);first|done|rfl|(simp only[jq3,jq4];rfl)) ?_;(with_reducible refine(wv.calls k a0 t101 _ A2.out).mono ?_);rintro e w' ⟨rfl,⟨nd,rfl⟩⟩;refine⟨_,rfl,?_⟩))
 go_ret
 exact⟨by first|rfl|(simp;done)|(simp[*];done),by repeat(first|exact Drawn0.refl _|apply Drawn0.step)⟩
end Go.Proofs.Ytccbjchlcelkgaa.Pr
namespace Go.Proofs.Ytccbjchlcelkgaa.Pr
open Go.RowKit Go.Proofs.YtccbjchlcelkgaaW.PrintWords Go.Proofs.YtccbjchlcelkgaaW.PrintLast Go.Proofs.YtccbjchlcelkgaaW.PrintMore
attribute [local go_sem] max2_int min2_int max_two min_two max_three min_three max_four min_four
set_option linter.unusedVariables false
set_option linter.unusedSimpArgs false
def xq.f (k:Nat) (a0_0:Int) (a0_1:Int) (a0_2:ByteArray) (a0_3:ByteArray):Option (Bool):=(wz.f k a0_0 a0_1 a0_2 a0_3).bind fun t102=>(some (!t102))
theorem xq.mono:∀ a0 a1 a2 a3 k,LeO (xq.f k a0 a1 a2 a3) (xq.f (k + 1) a0 a1 a2 a3):=by
 intro a0 a1 a2 a3 k
 unfold xq.f
 repeat' first
   | (with_reducible exact wz.mono _ _ _ _ _)
   | (with_reducible exact LeO.refl _)
   | (with_reducible exact LeO.none _)
   | (with_reducible refine LeO.ite ?_ ?_)
   | (with_reducible refine LeO.bind ?_ (fun _=>?_))
   | exact wz.mono _ _ _ _ _
   | exact LeO.none _
   | refine LeO.ite ?_ ?_
   | refine LeO.bind ?_ (fun _=>?_)
theorem xq.calls (k:Nat) (a0_0:Int) (a0_1:Int) (a0_2:ByteArray) (a0_3:ByteArray) (r:Bool) (w:World) (h:xq.f k a0_0 a0_1 a0_2 a0_3=some r) :
  Calls Try.prog 89 #[.agg #[.int .i64 a0_0,.int .i64 a0_1,.string a0_2,.string a0_3]] w fun e w'=>e=.returned (.bool r)∧Below w.heap.size w w':=by
 have hu34:=Try.underlying34
 have HB:=U.mk (Below.refl w.heap.size w)
 have H:((wz.f k a0_0 a0_1 a0_2 a0_3).bind fun t102=>(some (!t102)))=some r:=h
 clear h
 replace H:=jq8.mp H
 obtain⟨t102,A20,H⟩:=H
 replace H:(some (!t102))=some r:=H
 have A2:=U.mk A20
 clear A20
 obtain rfl:=Option.some.inj H
 go_enter Try.func89,Try.ntmps89
 go_wp2_with (first|((with_reducible refine gate_dst (N:=1) rfl ?_);refine box_event ?hg (N:=1) ?hd (cs:=#[.int .i64 a0_0,.int .i64 a0_1,.string a0_2,.string a0_3]) (t:=34) ?hr ?_;(case hd=>rfl);(case hg=>rfl);(case hr=>first|(go_simp;done)|(go_simp;rfl));intro gb101 hg w3 hbox hb;have BK101:=U.mk (hbox);have GW101:=U.mk ((by rw[hg];exact(zj (by solve_by_elim only[HB.out,G,J,qq])):w.heap.size≤gb101));have GE101:=U.mk ((by rw[hg];exact(zj (by solve_by_elim only[HB.out,G,J,qq])):w.heap.size≤gb101));replace HB:=U.mk (zz (by solve_by_elim only[HB.out,G,J,qq]) hb);clear hb hbox hg;have hcz4_0:w3.cell? ⟨gb101,0,none⟩ = some (.int .i64 a0_0):=(qj BK101.out 0).trans rfl;have hcz4_1:w3.cell? ⟨gb101,1,none⟩ = some (.int .i64 a0_1):=(qj BK101.out 1).trans rfl;have hcz4_2:w3.cell? ⟨gb101,2,none⟩ = some (.string a0_2):=(qj BK101.out 2).trans rfl;have hcz4_3:w3.cell? ⟨gb101,3,none⟩ = some (.string a0_3):=(qj BK101.out 3).trans rfl;have hfz4_0:=qz BK101.out 0;have hfz4_1:=qz BK101.out 1;have hfz4_2:=qz BK101.out 2;have hfz4_3:=qz BK101.out 3)|((with_reducible refine jw (f:=70) rfl ?_);refine goesL_ (some 4) rfl rfl Try.func70 (by kernel_rfl) rfl #[.agg #[.int .i64 a0_0,.int .i64 a0_1,.string a0_2,.string a0_3]] rfl (by(try simp only[jq0,jq1,jq2]);first|done|rfl|(simp only[jq3,jq4];rfl)) ?_;(with_reducible refine(wz.calls k a0_0 a0_1 a0_2 a0_3 t102 _ A2.out).mono ?_);rintro e w5 ⟨rfl,hb⟩;refine⟨_,rfl,?_⟩;replace BK101:=U.mk (kv (g:=gb101) (o:=.cells #[.int .i64 a0_0,.int .i64 a0_1,.string a0_2,.string a0_3] 34 (0,0)) (by solve_by_elim only[BK101.out,qw,qx,qv]) hb);replace HB:=U.mk (zz (by solve_by_elim (maxDepth:=20) only[HB.out,G,J,qq,qk,GE101.out]) hb);(try clear hb)))
 go_ret
 exact⟨by first|rfl|(simp[*,jv,jk] <;> rfl),by repeat(first|(with_reducible first|exact HB.out|apply G|apply J|apply qq|refine qk ?_ GE101.out)|exact HB.out)⟩
end Go.Proofs.Ytccbjchlcelkgaa.Pr
namespace Go.Proofs.Ytccbjchlcelkgaa.Pr
open Go.RowKit Go.Proofs.YtccbjchlcelkgaaW.PrintWords Go.Proofs.YtccbjchlcelkgaaW.PrintLast Go.Proofs.YtccbjchlcelkgaaW.PrintMore
set_option linter.unusedVariables false
def has_impl_SetOf_1.f (k:Nat) (l:List S34):Option Bool:=anyO (fun x:S34=>xq.f k x.f0 x.f1 x.f2 x.f3) l
theorem has_impl_SetOf_1.mono (l:List S34) (k:Nat):LeO (has_impl_SetOf_1.f k l) (has_impl_SetOf_1.f (k + 1) l):=anyO_mono (p:=fun x:S34=>xq.f k x.f0 x.f1 x.f2 x.f3) (q:=fun x:S34=>xq.f (k + 1) x.f0 x.f1 x.f2 x.f3) (fun x=>xq.mono x.f0 x.f1 x.f2 x.f3 k) l
theorem has_impl_SetOf_1.calls (k:Nat) (A0:Option Addr) (c0:Nat) (l0:List S34) (r:Bool) (w:World) (hr0:Kd.C k34 w A0 l0.length l0) (hc0:l0.length≤c0) (h:has_impl_SetOf_1.f k l0=some r) :
  Calls Try.prog 88 #[.slice A0 l0.length c0,.func (.func 89) #[] #[]] w fun e w'=>e=.returned (.bool r)∧Below w.heap.size w w' :=
 containsT34_calls 89 (fun x:S34=>xq.f k x.f0 x.f1 x.f2 x.f3) (enters_of Try.func89 (by kernel_rfl) rfl) (fun x b W hb=>xq.calls k x.f0 x.f1 x.f2 x.f3 b W hb) A0 c0 l0 r w hr0 h
def has_impl_GoodDirName_1.f (k:Nat) (l:List S122):Option Bool:=anyO (fun x:S122=>wj.f k x.f0 x.f1) l
theorem has_impl_GoodDirName_1.mono (l:List S122) (k:Nat):LeO (has_impl_GoodDirName_1.f k l) (has_impl_GoodDirName_1.f (k + 1) l):=anyO_mono (p:=fun x:S122=>wj.f k x.f0 x.f1) (q:=fun x:S122=>wj.f (k + 1) x.f0 x.f1) (fun x=>wj.mono x.f0 x.f1 k) l
theorem has_impl_GoodDirName_1.calls (k:Nat) (A0:Option Addr) (c0:Nat) (l0:List S122) (r:Bool) (w:World) (hr0:Kd.C k122 w A0 l0.length l0) (hc0:l0.length≤c0) (h:has_impl_GoodDirName_1.f k l0=some r) :
  Calls Try.prog 144 #[.slice A0 l0.length c0,.func (.func 145) #[] #[]] w fun e w'=>e=.returned (.bool r)∧Below w.heap.size w w' :=
 containsT122_calls 145 (fun x:S122=>wj.f k x.f0 x.f1) (enters_of Try.func145 (by kernel_rfl) rfl) (fun x b W hb=>wj.calls k x.f0 x.f1 b W hb) A0 c0 l0 r w hr0 h
def has_impl_yallNames_1.f (k:Nat) (l:List ByteArray):Option Bool:=anyO (xz.f k) l
theorem has_impl_yallNames_1.mono (l:List ByteArray) (k:Nat):LeO (has_impl_yallNames_1.f k l) (has_impl_yallNames_1.f (k + 1) l):=anyO_mono (p:=xz.f k) (q:=xz.f (k + 1)) (fun x=>xz.mono x k) l
theorem has_impl_yallNames_1.calls (k:Nat) (A0:Option Addr) (c0:Nat) (l0:List ByteArray) (r:Bool) (w:World) (hr0:Kd.C Kd.string w A0 l0.length l0) (hc0:l0.length≤c0) (h:has_impl_yallNames_1.f k l0=some r) :
  Calls Try.prog 201 #[.slice A0 l0.length c0,.func (.func 202) #[] #[]] w fun e w'=>e=.returned (.bool r)∧Drawn0 w w' :=
 containsStr_calls 202 (xz.f k) (enters_of Try.func202 (by kernel_rfl) rfl) (fun x b W hb=>xz.calls k x b W hb) A0 c0 l0 r w hr0 h
def has_impl_GoodValue_1.f (k:Nat) (l:List S34):Option Bool:=anyO (fun x:S34=>ww.f k x.f0 x.f1 x.f2 x.f3) l
theorem has_impl_GoodValue_1.mono (l:List S34) (k:Nat):LeO (has_impl_GoodValue_1.f k l) (has_impl_GoodValue_1.f (k + 1) l):=anyO_mono (p:=fun x:S34=>ww.f k x.f0 x.f1 x.f2 x.f3) (q:=fun x:S34=>ww.f (k + 1) x.f0 x.f1 x.f2 x.f3) (fun x=>ww.mono x.f0 x.f1 x.f2 x.f3 k) l
theorem has_impl_GoodValue_1.calls (k:Nat) (A0:Option Addr) (c0:Nat) (l0:List S34) (r:Bool) (w:World) (hr0:Kd.C k34 w A0 l0.length l0) (hc0:l0.length≤c0) (h:has_impl_GoodValue_1.f k l0=some r) :
  Calls Try.prog 88 #[.slice A0 l0.length c0,.func (.func 185) #[] #[]] w fun e w'=>e=.returned (.bool r)∧Below w.heap.size w w' :=
 containsT34_calls 185 (fun x:S34=>ww.f k x.f0 x.f1 x.f2 x.f3) (enters_of Try.func185 (by kernel_rfl) rfl) (fun x b W hb=>ww.calls k x.f0 x.f1 x.f2 x.f3 b W hb) A0 c0 l0 r w hr0 h
end Go.Proofs.Ytccbjchlcelkgaa.Pr
namespace Go.Proofs.YtccbjchlcelkgaaW.PrintWords
open Go.RowKit
set_option linter.unusedVariables false
def GB (w w1:World):Prop:=Below w.heap.size w w1∧∃ q os,w1=Go.Sort.grow (w.drewN q) os
theorem GB.refl (w:World):GB w w:=⟨Below.refl _ _,0,#[],by simp[World.drewN]⟩
theorem gb_step {w w1 w2:World} (h:GB w w1) (h2:GB w1 w2):GB w w2:=by
 obtain⟨b,q,os,rfl⟩:=h
 obtain⟨b2,q2,os2,rfl⟩:=h2
 exact⟨zz b b2,q + q2,os ++ os2,by simp[Go.Sort.grow,World.drewN,Nat.add_assoc,Array.append_assoc]⟩
theorem gb_one (w:World) (o:Obj):GB w (w.alloc o):=⟨G (Below.refl _ _) o,0,#[o],by rw[Go.Sort.alloc_eq_grow];simp[Go.Sort.grow,World.drewN]⟩
theorem gb_alloc {w w1:World} (h:GB w w1) (o:Obj):GB w (w1.alloc o):=gb_step h (gb_one w1 o)
theorem gb_drewN {w w1:World} (h:GB w w1) (m:Nat):GB w (w1.drewN m):=gb_step h ⟨J (Below.refl _ _) m,m,#[],by simp[Go.Sort.grow,World.drewN]⟩
theorem gb_drew1 {w w1:World} (h:GB w w1):GB w w1.drew:=gb_drewN h 1
theorem gb_size {w w1:World} (h:GB w w1):w.heap.size≤w1.heap.size:=zj h.1
section
variable {P:Program} {ops:Array Oper} {rest:List Oper} {o:Oper} {a:Act} {Q:Exit→Act→World→Prop} {Kc:Act→World→Prop}
theorem box_eventG {W:World} (hgd:o.guard=none) {N:Tmp} (_hd:o.dst=some N) {cs:Array Value} {t:TypeId}
  (hrun:(execOp a.eval o).run P W=.ok (.value (.pointer (some ⟨W.heap.size,0,none⟩))) (W.alloc (.cells cs t (0,0))))
  (h:∀ g,g=W.heap.size→∀ w1,w1.heap[g]? = some (.cells cs t (0,0))→GB W w1→wpList P ops Q rest (a.put o.dst (.pointer (some ⟨g,0,none⟩))) w1):wpList P ops Q (o :: rest) a W :=
 Kd.event_run hgd hrun (h _ rfl _ (blk_new W _) (gb_one _ _))
theorem R_lit_stepG {α:Type} (d:Kd α) {W:World} (e:Nat) (hw:Region.wanted o (yielded ops a.tmps)=true) {N:Tmp} (_hd:o.dst=some N) {xs:List α} {inner:List Value} {ok okp:Nat→Prop}
  (hrun:(execOp a.eval o).run P W=.ok (.value (.slice (some ⟨W.heap.size,0,none⟩) xs.length xs.length)) (W.alloc (.cells inner.toArray e)))
  (hrep:Reps (d.M W W.heap.size okp) d.sz xs inner) (hok:∀ k,okp k→ok k) (hfresh:ok W.heap.size) (hm:xs.length≤9223372036854775807)
  (h:∀ v1 w1,d.R e w1 W.heap.size ok v1 xs→GB W w1→W.grownBy w1 none→(∃ b,v1.ownBlock=some b∧W.heap.size≤b)→Kc (a.put o.dst v1) w1):if Region.wanted o (yielded ops a.tmps)=true then Oper.wp P o a W Kc Q else Kc (a.put o.dst undef) W:=by
 refine event_step hw hrun (h _ _ ⟨fun k hk=>?_,inner,?_,?_⟩ (gb_one _ _) (World.grownBy_alloc W _ none) ⟨W.heap.size,by simp[Value.ownBlock],Nat.le_refl _⟩)
 ·have:W.heap.size=k:=by simpa [Value.ownBlock] using hk
  subst this
  exact hfresh
 ·have h2:=World.ownsRow_lit (base:=W.heap.size) (e:=e) (size:=d.sz) W inner.toArray xs.length (Nat.le_refl _) (by simpa [maxLen] using hm) (by simpa using hrep.1)
  simpa using h2
 ·refine hrep.imp_ (fun p c hp=>d.M_mono (fun k hk=>⟨hok k hk.1,fun he=>?_⟩) (Kd.M_below (d.M_bound hp) (G (Below.refl _ _) _)))
  have h3:k=W.heap.size:=by simpa [Value.ownBlock] using he
  have:=hk.2.2.1
  omega
end
end Go.Proofs.YtccbjchlcelkgaaW.PrintWords
namespace Go.Proofs.Ytccbjchlcelkgaa.Pr
open Go.RowKit Go.Proofs.YtccbjchlcelkgaaW.PrintWords Go.Proofs.YtccbjchlcelkgaaW.PrintLast Go.Proofs.YtccbjchlcelkgaaW.PrintMore
attribute [local go_sem] max2_int min2_int max_two min_two max_three min_three max_four min_four
set_option linter.unusedVariables false
set_option linter.unusedSimpArgs false
def cmp_Or_int.l0:Nat→Int→List Int→Int→Int→Option (Int)
 | 0,_,_,_,_=>none
 | k + 1,x3,x6,x7,x8=>if x8 < x7 then(if 0≤x8 then(if x8 < (x6.length:Int) then(if (rd x6 x8)=x3 then(cmp_Or_int.l0 k x3 x6 x7 (wrap64 (x8 + 1))) else(some (rd x6 x8))) else(none)) else(none)) else(some x3)
def cmp_Or_int.f (k:Nat) (l0:List Int):Option (Int):=cmp_Or_int.l0 k 0 l0 (l0.length:Int) 0
theorem cmp_Or_int.mono_l:∀ k,(∀ y0 y1 y2 y3,LeO (cmp_Or_int.l0 k y0 y1 y2 y3) (cmp_Or_int.l0 (k + 1) y0 y1 y2 y3))
 | 0=>fun _ _ _ _ r h=>by simp[cmp_Or_int.l0] at h
 | k + 1=>by
  have ih0:=cmp_Or_int.mono_l k
  ·intro y0 y1 y2 y3
   unfold cmp_Or_int.l0
   repeat' first
   | (with_reducible exact ih0 _ _ _ _)
   | (with_reducible exact LeO.refl _)
   | (with_reducible exact LeO.none _)
   | (with_reducible refine LeO.ite ?_ ?_)
   | (with_reducible refine LeO.bind ?_ (fun _=>?_))
   | exact ih0 _ _ _ _
   | exact LeO.none _
   | refine LeO.ite ?_ ?_
   | refine LeO.bind ?_ (fun _=>?_)
theorem cmp_Or_int.mono:∀ a0 k,LeO (cmp_Or_int.f k a0) (cmp_Or_int.f (k + 1) a0):=by
 intro a0 k
 have ih0:=cmp_Or_int.mono_l k
 unfold cmp_Or_int.f
 repeat' first
   | (with_reducible exact ih0 _ _ _ _)
   | (with_reducible exact LeO.refl _)
   | (with_reducible exact LeO.none _)
   | (with_reducible refine LeO.ite ?_ ?_)
   | (with_reducible refine LeO.bind ?_ (fun _=>?_))
   | exact ih0 _ _ _ _
   | exact LeO.none _
   | refine LeO.ite ?_ ?_
   | refine LeO.bind ?_ (fun _=>?_)
theorem cmp_Or_int.calls (k:Nat) (A0:Option Addr) (c0:Nat) (l0:List Int) (r:Int) (w:World) (hr0:Kd.C (Kd.int .i64) w A0 l0.length l0) (hc0:l0.length≤c0) (h:cmp_Or_int.f k l0=some r) :
  Calls Try.prog 140 #[.slice A0 l0.length c0] w fun e w'=>e=.returned (.int .i64 r)∧Drawn0 w w':=by
 have HR0:=U.mk hr0
 have HC0:=U.mk hc0
 clear hr0 hc0
 have H:(cmp_Or_int.l0 k 0 l0 (l0.length:Int) 0)=some r:=h
 clear h
 have H':=U.mk H
 clear H
 go_enter Try.func140,Try.ntmps140
 go_wp2
 go_loopg [8] k (fun kq v8 w'=>∃ (x8_1:Int),v8=.int .i64 x8_1∧U (cmp_Or_int.l0 kq 0 l0 (l0.length:Int) x8_1=some r)∧U (kq≤k)∧Drawn0 w w')
 case atStart=>exact⟨(0),(by first|rfl|(simp;done)|(simp[*];done)),H',⟨Nat.le_refl _⟩,by repeat(first|exact Drawn0.refl _|apply Drawn0.step)⟩
 case round =>
  clear H'
  try clear c1
  obtain⟨x8_1,rfl,HA,HK1,⟨m1,rfl⟩⟩:=hrel
  cases gk with
  | zero=>exact absurd HA.out (by simp[cmp_Or_int.l0])
  | succ k1 =>
   have H:=HA.out
   clear HA
   simp only[cmp_Or_int.l0] at H
   by_cases c2:x8_1 < (l0.length:Int)
   ·rw[if_pos c2] at H
    have c2b0:decide (x8_1 < (l0.length:Int))=true:=decide_eq_true c2
    clear c2
    by_cases c3 : 0≤x8_1
    ·rw[if_pos c3] at H
     have c3b0:decide (0≤x8_1)=true:=decide_eq_true c3
     clear c3
     by_cases c4:x8_1 < (l0.length:Int)
     ·rw[if_pos c4] at H
      have c4b0:decide (x8_1 < (l0.length:Int))=true:=decide_eq_true c4
      clear c4
      by_cases c5:(rd l0 x8_1)=0
      ·rw[if_pos c5] at H
       have c5b0:((rd l0 x8_1) == 0)=true:=beq_iff_eq.mpr c5
       have c5b1:((rd l0 x8_1) != 0)=false:=bne_eq_false_iff_eq.mpr c5
       clear c5
       have H':=U.mk H
       clear H
       have p101 : 0≤(x8_1:Int):=of_decide_eq_true (by assumption)
       have q101:x8_1 < (l0.length:Int):=of_decide_eq_true (by assumption)
       obtain⟨ad101,e101,hx101_0⟩:=Kd.at_int HR0.out x8_1 p101 q101
       cases e101
       replace p101:=eq_true p101
       replace q101:=eq_true q101
       go_wp2
       go_roundg k1
       case measure=>have:=HK1.out;omega
       case rel=>exact⟨(wrap64 (x8_1 + 1)),(by first|rfl|(simp;done)|(simp[*];done)),H',⟨by have:=HK1.out;omega⟩,by repeat(first|exact Drawn0.refl _|apply Drawn0.step)⟩
      ·rw[if_neg c5] at H
       have c5b0:((rd l0 x8_1) == 0)=false:=beq_eq_false_iff_ne.mpr c5
       have c5b1:((rd l0 x8_1) != 0)=true:=bne_iff_ne.mpr c5
       obtain rfl:=Option.some.inj H
       have p101 : 0≤(x8_1:Int):=of_decide_eq_true (by assumption)
       have q101:x8_1 < (l0.length:Int):=of_decide_eq_true (by assumption)
       obtain⟨ad101,e101,hx101_0⟩:=Kd.at_int HR0.out x8_1 p101 q101
       cases e101
       replace p101:=eq_true p101
       replace q101:=eq_true q101
       go_wp2
       go_ret
       exact⟨by first|rfl|(simp;done)|(simp[*];done),by repeat(first|exact Drawn0.refl _|apply Drawn0.step)⟩
     ·rw[if_neg c4] at H
      exact absurd H (by simp)
    ·rw[if_neg c3] at H
     exact absurd H (by simp)
   ·rw[if_neg c2] at H
    have c2b0:decide (x8_1 < (l0.length:Int))=false:=decide_eq_false c2
    clear c2
    obtain rfl:=Option.some.inj H
    go_wp2
    go_ret
    exact⟨by first|rfl|(simp;done)|(simp[*];done),by repeat(first|exact Drawn0.refl _|apply Drawn0.step)⟩
end Go.Proofs.Ytccbjchlcelkgaa.Pr
namespace Go.Proofs.Ytccbjchlcelkgaa.Pr
open Go.RowKit Go.Proofs.YtccbjchlcelkgaaW.PrintWords Go.Proofs.YtccbjchlcelkgaaW.PrintLast Go.Proofs.YtccbjchlcelkgaaW.PrintMore
attribute [local go_sem] max2_int min2_int max_two min_two max_three min_three max_four min_four
set_option linter.unusedVariables false
set_option linter.unusedSimpArgs false
def cmp_isNaN_int.f (a0:Int):Option (Bool):=some (a0 != a0)
theorem cmp_isNaN_int.calls (a0:Int) (r:Bool) (w:World) (h:cmp_isNaN_int.f a0=some r) :
  Calls Try.prog 177 #[.int .i64 a0] w fun e w'=>e=.returned (.bool r)∧Drawn0 w w':=by
 have H:(some (a0 != a0))=some r:=h
 clear h
 obtain rfl:=Option.some.inj H
 go_enter Try.func177,Try.ntmps177
 go_wp2
 go_ret
 exact⟨by first|rfl|(simp;done)|(simp[*];done),by repeat(first|exact Drawn0.refl _|apply Drawn0.step)⟩
end Go.Proofs.Ytccbjchlcelkgaa.Pr
namespace Go.Proofs.Ytccbjchlcelkgaa.Pr
open Go.RowKit Go.Proofs.YtccbjchlcelkgaaW.PrintWords Go.Proofs.YtccbjchlcelkgaaW.PrintLast Go.Proofs.YtccbjchlcelkgaaW.PrintMore
attribute [local go_sem] max2_int min2_int max_two min_two max_three min_three max_four min_four
set_option linter.unusedVariables false
set_option linter.unusedSimpArgs false
def cmp_Compare_int.f (a0:Int) (a1:Int):Option (Int):=(cmp_isNaN_int.f a0).bind fun t101=>((cmp_isNaN_int.f a1).bind fun t102=>(if t101=true then(if t102=true then(some 0) else(some (-1))) else(if t102=true then(some 1) else(if a0 < a1 then(some (-1)) else(if a0 > a1 then(some 1) else(some 0))))))
theorem cmp_Compare_int.calls (a0:Int) (a1:Int) (r:Int) (w:World) (h:cmp_Compare_int.f a0 a1=some r) :
  Calls Try.prog 141 #[.int .i64 a0,.int .i64 a1] w fun e w'=>e=.returned (.int .i64 r)∧Drawn0 w w':=by
 unfold cmp_Compare_int.f at h
 have H:=h
 clear h
 replace H:=jq8.mp H
 obtain⟨t101,A30,H⟩:=H
 try dsimp only at H
 have A3:=U.mk A30
 clear A30
 replace H:=jq8.mp H
 obtain⟨t102,A40,H⟩:=H
 try dsimp only at H
 have A4:=U.mk A40
 clear A40
 by_cases c5:t101=true
 ·subst c5
  have H1:(if t102=true then(some 0) else(some (-1)))=some r:=by rw[if_pos rfl] at H;exact H
  clear H
  have H:=H1
  clear H1
  by_cases c6:t102=true
  ·subst c6
   have H1:(some 0)=some r:=by rw[if_pos rfl] at H;exact H
   clear H
   have H:=H1
   clear H1
   obtain rfl:=Option.some.inj H
   go_enter Try.func141,Try.ntmps141
   go_wp2_with (first|((with_reducible refine jw (f:=177) rfl ?_);refine goesL_ (some 8) rfl rfl Try.func177 (by kernel_rfl) rfl #[.int .i64 a0] rfl (by(try simp only[jq0,jq1,jq2]);first|done|rfl|(simp only[jq3,jq4];rfl)) ?_;(with_reducible refine(cmp_isNaN_int.calls a0 true _ A3.out).mono ?_);rintro e w' ⟨rfl,⟨nd,rfl⟩⟩;refine⟨_,rfl,?_⟩)|((with_reducible refine jw (f:=177) rfl ?_);refine goesL_ (some 10) rfl rfl Try.func177 (by kernel_rfl) rfl #[.int .i64 a1] rfl (by(try simp only[jq0,jq1,jq2]);first|done|rfl|(simp only[jq3,jq4];rfl)) ?_;(with_reducible refine(cmp_isNaN_int.calls a1 true _ A4.out).mono ?_);rintro e w' ⟨rfl,⟨nd,rfl⟩⟩;refine⟨_,rfl,?_⟩))
   go_ret
   exact⟨by first|rfl|(simp;done)|(simp[*];done),by repeat(first|exact Drawn0.refl _|apply Drawn0.step)⟩
  ·replace c6:=jq9.mpr c6
   subst c6
   have H1:(some (-1))=some r:=by rw[if_neg (show ¬ (false=true) by decide)] at H;exact H
   clear H
   have H:=H1
   clear H1
   obtain rfl:=Option.some.inj H
   go_enter Try.func141,Try.ntmps141
   go_wp2_with (first|((with_reducible refine jw (f:=177) rfl ?_);refine goesL_ (some 8) rfl rfl Try.func177 (by kernel_rfl) rfl #[.int .i64 a0] rfl (by(try simp only[jq0,jq1,jq2]);first|done|rfl|(simp only[jq3,jq4];rfl)) ?_;(with_reducible refine(cmp_isNaN_int.calls a0 true _ A3.out).mono ?_);rintro e w' ⟨rfl,⟨nd,rfl⟩⟩;refine⟨_,rfl,?_⟩)|((with_reducible refine jw (f:=177) rfl ?_);refine goesL_ (some 10) rfl rfl Try.func177 (by kernel_rfl) rfl #[.int .i64 a1] rfl (by(try simp only[jq0,jq1,jq2]);first|done|rfl|(simp only[jq3,jq4];rfl)) ?_;(with_reducible refine(cmp_isNaN_int.calls a1 false _ A4.out).mono ?_);rintro e w' ⟨rfl,⟨nd,rfl⟩⟩;refine⟨_,rfl,?_⟩))
   go_ret
   exact⟨by first|rfl|(simp;done)|(simp[*];done),by repeat(first|exact Drawn0.refl _|apply Drawn0.step)⟩
 ·replace c5:=jq9.mpr c5
  subst c5
  have H1:(if t102=true then(some 1) else(if a0 < a1 then(some (-1)) else(if a0 > a1 then(some 1) else(some 0))))=some r:=by rw[if_neg (show ¬ (false=true) by decide)] at H;exact H
  clear H
  have H:=H1
  clear H1
  by_cases c7:t102=true
  ·subst c7
   have H1:(some 1)=some r:=by rw[if_pos rfl] at H;exact H
   clear H
   have H:=H1
   clear H1
   obtain rfl:=Option.some.inj H
   go_enter Try.func141,Try.ntmps141
   go_wp2_with (first|((with_reducible refine jw (f:=177) rfl ?_);refine goesL_ (some 8) rfl rfl Try.func177 (by kernel_rfl) rfl #[.int .i64 a0] rfl (by(try simp only[jq0,jq1,jq2]);first|done|rfl|(simp only[jq3,jq4];rfl)) ?_;(with_reducible refine(cmp_isNaN_int.calls a0 false _ A3.out).mono ?_);rintro e w' ⟨rfl,⟨nd,rfl⟩⟩;refine⟨_,rfl,?_⟩)|((with_reducible refine jw (f:=177) rfl ?_);refine goesL_ (some 10) rfl rfl Try.func177 (by kernel_rfl) rfl #[.int .i64 a1] rfl (by(try simp only[jq0,jq1,jq2]);first|done|rfl|(simp only[jq3,jq4];rfl)) ?_;(with_reducible refine(cmp_isNaN_int.calls a1 true _ A4.out).mono ?_);rintro e w' ⟨rfl,⟨nd,rfl⟩⟩;refine⟨_,rfl,?_⟩))
   go_ret
   exact⟨by first|rfl|(simp;done)|(simp[*];done),by repeat(first|exact Drawn0.refl _|apply Drawn0.step)⟩
  ·replace c7:=jq9.mpr c7
   subst c7
   have H1:(if a0 < a1 then(some (-1)) else(if a0 > a1 then(some 1) else(some 0)))=some r:=by rw[if_neg (show ¬ (false=true) by decide)] at H;exact H
   clear H
   have H:=H1
   clear H1
   by_cases c8:a0 < a1
   ·rw[if_pos c8] at H
    have c8b0:decide (a0 < a1)=true:=decide_eq_true c8
    clear c8
    obtain rfl:=Option.some.inj H
    go_enter Try.func141,Try.ntmps141
    go_wp2_with (first|((with_reducible refine jw (f:=177) rfl ?_);refine goesL_ (some 8) rfl rfl Try.func177 (by kernel_rfl) rfl #[.int .i64 a0] rfl (by(try simp only[jq0,jq1,jq2]);first|done|rfl|(simp only[jq3,jq4];rfl)) ?_;(with_reducible refine(cmp_isNaN_int.calls a0 false _ A3.out).mono ?_);rintro e w' ⟨rfl,⟨nd,rfl⟩⟩;refine⟨_,rfl,?_⟩)|((with_reducible refine jw (f:=177) rfl ?_);refine goesL_ (some 10) rfl rfl Try.func177 (by kernel_rfl) rfl #[.int .i64 a1] rfl (by(try simp only[jq0,jq1,jq2]);first|done|rfl|(simp only[jq3,jq4];rfl)) ?_;(with_reducible refine(cmp_isNaN_int.calls a1 false _ A4.out).mono ?_);rintro e w' ⟨rfl,⟨nd,rfl⟩⟩;refine⟨_,rfl,?_⟩))
    go_ret
    exact⟨by first|rfl|(simp;done)|(simp[*];done),by repeat(first|exact Drawn0.refl _|apply Drawn0.step)⟩
   ·rw[if_neg c8] at H
    have c8b0:decide (a0 < a1)=false:=decide_eq_false c8
    clear c8
    by_cases c9:a0 > a1
    ·rw[if_pos c9] at H
     have c9b0:decide (a1 < a0)=true:=decide_eq_true c9
     clear c9
     obtain rfl:=Option.some.inj H
     go_enter Try.func141,Try.ntmps141
     go_wp2_with (first|((with_reducible refine jw (f:=177) rfl ?_);refine goesL_ (some 8) rfl rfl Try.func177 (by kernel_rfl) rfl #[.int .i64 a0] rfl (by(try simp only[jq0,jq1,jq2]);first|done|rfl|(simp only[jq3,jq4];rfl)) ?_;(with_reducible refine(cmp_isNaN_int.calls a0 false _ A3.out).mono ?_);rintro e w' ⟨rfl,⟨nd,rfl⟩⟩;refine⟨_,rfl,?_⟩)|((with_reducible refine jw (f:=177) rfl ?_);refine goesL_ (some 10) rfl rfl Try.func177 (by kernel_rfl) rfl #[.int .i64 a1] rfl (by(try simp only[jq0,jq1,jq2]);first|done|rfl|(simp only[jq3,jq4];rfl)) ?_;(with_reducible refine(cmp_isNaN_int.calls a1 false _ A4.out).mono ?_);rintro e w' ⟨rfl,⟨nd,rfl⟩⟩;refine⟨_,rfl,?_⟩))
     go_ret
     exact⟨by first|rfl|(simp;done)|(simp[*];done),by repeat(first|exact Drawn0.refl _|apply Drawn0.step)⟩
    ·rw[if_neg c9] at H
     have c9b0:decide (a1 < a0)=false:=decide_eq_false c9
     clear c9
     obtain rfl:=Option.some.inj H
     go_enter Try.func141,Try.ntmps141
     go_wp2_with (first|((with_reducible refine jw (f:=177) rfl ?_);refine goesL_ (some 8) rfl rfl Try.func177 (by kernel_rfl) rfl #[.int .i64 a0] rfl (by(try simp only[jq0,jq1,jq2]);first|done|rfl|(simp only[jq3,jq4];rfl)) ?_;(with_reducible refine(cmp_isNaN_int.calls a0 false _ A3.out).mono ?_);rintro e w' ⟨rfl,⟨nd,rfl⟩⟩;refine⟨_,rfl,?_⟩)|((with_reducible refine jw (f:=177) rfl ?_);refine goesL_ (some 10) rfl rfl Try.func177 (by kernel_rfl) rfl #[.int .i64 a1] rfl (by(try simp only[jq0,jq1,jq2]);first|done|rfl|(simp only[jq3,jq4];rfl)) ?_;(with_reducible refine(cmp_isNaN_int.calls a1 false _ A4.out).mono ?_);rintro e w' ⟨rfl,⟨nd,rfl⟩⟩;refine⟨_,rfl,?_⟩))
     go_ret
     exact⟨by first|rfl|(simp;done)|(simp[*];done),by repeat(first|exact Drawn0.refl _|apply Drawn0.step)⟩
end Go.Proofs.Ytccbjchlcelkgaa.Pr
namespace Go.Proofs.Ytccbjchlcelkgaa.Pr
open Go.RowKit Go.Proofs.YtccbjchlcelkgaaW.PrintWords Go.Proofs.YtccbjchlcelkgaaW.PrintLast Go.Proofs.YtccbjchlcelkgaaW.PrintMore
attribute [local go_sem] max2_int min2_int max_two min_two max_three min_three max_four min_four
set_option linter.unusedVariables false
set_option linter.unusedSimpArgs false
def xj.f (k:Nat) (a0_0:Int) (a0_1:Int) (a0_2:ByteArray) (a0_3:ByteArray) (a1_0:Int) (a1_1:Int) (a1_2:ByteArray) (a1_3:ByteArray):Option (Int):=(cmp_Compare_int.f a0_0 a1_0).bind fun t103=>((cmp_Compare_int.f a0_1 a1_1).bind fun t104=>((cmp_Compare_string.f a0_3 a1_3).bind fun t105=>((cmp_Compare_string.f a0_2 a1_2).bind fun t106=>((cmp_Or_int.f k (([t103,t104,t105,t106]:List Int))).bind fun t110=>(some t110)))))
def xj.T1:Bool × List (List Nat × List Nat):=(true,[([],[]),([0],[0]),([],[]),([2],[2]),([1,3],[1,3]),([],[]),([5],[5]),([],[]),([7],[7]),([6,8,4],[6,8]),([],[]),([10],[10]),([],[]),([12],[12]),([11,13,9],[11,13]),([],[]),([15],[15]),([],[]),([17],[17]),([16,18,14],[16,18]),([4,9,14,19],[4,9,14,19]),([20,19],[20]),([21,21,0,1,2,3,4,5,6,7,8,9,10,11,12,13,14,15,16,17,18,19,20,21],[21])])
def xj.B1:List Nat:=[0,1,0,4,15,0,32,0,128,511,0,1024,0,4096,16383,0,32768,0,131072,524287,1048575,2097151,4194303]
theorem xj.tab1:rtab .any (opsOf Try.f92 1)=xj.T1:=by kernel_rfl
theorem xj.bits1:waitsOk xj.T1.2 xj.B1=true:=by kernel_rfl
end Go.Proofs.Ytccbjchlcelkgaa.Pr
namespace Go.Proofs.Ytccbjchlcelkgaa.Pr
open Go.RowKit Go.Proofs.YtccbjchlcelkgaaW.PrintWords Go.Proofs.YtccbjchlcelkgaaW.PrintLast Go.Proofs.YtccbjchlcelkgaaW.PrintMore
attribute [local go_sem] max2_int min2_int max_two min_two max_three min_three max_four min_four
set_option linter.unusedVariables false
set_option linter.unusedSimpArgs false
theorem xj.callsG (k:Nat) (a0_0:Int) (a0_1:Int) (a0_2:ByteArray) (a0_3:ByteArray) (a1_0:Int) (a1_1:Int) (a1_2:ByteArray) (a1_3:ByteArray) (r:Int) (w:World) (h:xj.f k a0_0 a0_1 a0_2 a0_3 a1_0 a1_1 a1_2 a1_3=some r) :
  Calls Try.prog 92 #[.agg #[.int .i64 a0_0,.int .i64 a0_1,.string a0_2,.string a0_3],.agg #[.int .i64 a1_0,.int .i64 a1_1,.string a1_2,.string a1_3]] w fun e w'=>e=.returned (.int .i64 r)∧GB w w':=by
 have hu34:=Try.underlying34
 have HB:=U.mk (GB.refl w)
 unfold xj.f at h
 have H:=h
 clear h
 replace H:=jq8.mp H
 obtain⟨t103,A30,H⟩:=H
 try dsimp only at H
 have A3:=U.mk A30
 clear A30
 replace H:=jq8.mp H
 obtain⟨t104,A40,H⟩:=H
 try dsimp only at H
 have A4:=U.mk A40
 clear A40
 replace H:=jq8.mp H
 obtain⟨t105,A50,H⟩:=H
 try dsimp only at H
 have A5:=U.mk A50
 clear A50
 replace H:=jq8.mp H
 obtain⟨t106,A60,H⟩:=H
 try dsimp only at H
 have A6:=U.mk A60
 clear A60
 obtain⟨y107,hy107⟩ : ∃ y_:List Int,y_=(([t103,t104,t105,t106]:List Int)):=⟨_,rfl⟩
 replace H:((cmp_Or_int.f k y107).bind fun t110=>(some t110))=some r:=by first|(rw[hy107];with_reducible exact H)|(have H2_:=(Option.bind_some _ _).symm.trans H;rw[hy107];with_reducible exact H2_)|(have H2_:=(Option.bind_some _ _).symm.trans H;with_reducible exact H2_)|with_reducible exact H|(rw[hy107];exact H)|exact H
 have Ny107:=U.mk hy107
 clear hy107
 replace H:=jq8.mp H
 obtain⟨t110,A70,H⟩:=H
 replace H:(some t110)=some r:=H
 have A7:=U.mk A70
 clear A70
 obtain rfl:=Option.some.inj H
 go_enter Try.func92,Try.ntmps92
 try go_wp2_with (first|((with_reducible refine gate_dst (N:=2) rfl ?_);refine box_eventG ?hg (N:=2) ?hd (cs:=#[.int .i64 a0_0,.int .i64 a0_1,.string a0_2,.string a0_3]) (t:=34) ?hr ?_;(case hd=>rfl);(case hg=>rfl);(case hr=>first|(go_simp;done)|(go_simp;rfl));intro gb101 hg w8 hbox hb;have BK101:=U.mk (hbox);have GW101:=U.mk ((by rw[hg];exact(gb_size (by solve_by_elim only[HB.out,gb_alloc,gb_drewN,gb_drew1])):w.heap.size≤gb101));have GE101:=U.mk ((by rw[hg];exact(gb_size (by solve_by_elim only[HB.out,gb_alloc,gb_drewN,gb_drew1])):w.heap.size≤gb101));replace HB:=U.mk (gb_step (by solve_by_elim only[HB.out,gb_alloc,gb_drewN,gb_drew1]) hb);clear hb hbox hg)|((with_reducible refine gate_dst (N:=3) rfl ?_);refine box_eventG ?hg (N:=3) ?hd (cs:=#[.int .i64 a1_0,.int .i64 a1_1,.string a1_2,.string a1_3]) (t:=34) ?hr ?_;(case hd=>rfl);(case hg=>rfl);(case hr=>first|(go_simp;done)|(go_simp;rfl));intro gb102 hg w9 hbox hb;have BK102:=U.mk (hbox);have GW102:=U.mk ((by rw[hg];exact(gb_size (by solve_by_elim only[HB.out,gb_alloc,gb_drewN,gb_drew1])):w.heap.size≤gb102));have GE102:=U.mk ((by rw[hg];exact(gb_size (by solve_by_elim only[HB.out,gb_alloc,gb_drewN,gb_drew1])):w.heap.size≤gb102));replace HB:=U.mk (gb_step (by solve_by_elim only[HB.out,gb_alloc,gb_drewN,gb_drew1]) hb);have NB101_102:=U.mk ((by rw[hg];exact Nat.ne_of_lt (blk_lt (g:=gb101) (o:=.cells #[.int .i64 a0_0,.int .i64 a0_1,.string a0_2,.string a0_3] 34 (0,0)) (by solve_by_elim only[BK101.out,qw,qx,qv])):gb101≠gb102));have NB102_101:=U.mk ((by rw[hg];exact Nat.ne_of_gt (blk_lt (g:=gb101) (o:=.cells #[.int .i64 a0_0,.int .i64 a0_1,.string a0_2,.string a0_3] 34 (0,0)) (by solve_by_elim only[BK101.out,qw,qx,qv])):gb102≠gb101));replace BK101:=U.mk (kv (g:=gb101) (o:=.cells #[.int .i64 a0_0,.int .i64 a0_1,.string a0_2,.string a0_3] 34 (0,0)) (by solve_by_elim only[BK101.out,qw,qx,qv]) hb.1);clear hb hbox hg))
 replace BK101:=U.mk (qx BK101.out)
 replace BK102:=U.mk (qx BK102.out)
 replace HB:=U.mk (gb_drew1 HB.out)
 refine start_ (n:=23) (S:=fun w'=>w'.cell? ⟨gb101,0,none⟩ = some (.int .i64 a0_0)∧w'.cell? ⟨gb101,1,none⟩ = some (.int .i64 a0_1)∧w'.cell? ⟨gb101,2,none⟩ = some (.string a0_2)∧w'.cell? ⟨gb101,3,none⟩ = some (.string a0_3)∧w'.cell? ⟨gb102,0,none⟩ = some (.int .i64 a1_0)∧w'.cell? ⟨gb102,1,none⟩ = some (.int .i64 a1_1)∧w'.cell? ⟨gb102,2,none⟩ = some (.string a1_2)∧w'.cell? ⟨gb102,3,none⟩ = some (.string a1_3)) (ds:=[]) #[Y,Y,Y,Y,Y,Y,Y,Y,Y,Y,Y,Y,Y,Y,Y,Y,Y,Y,Y,Y,Y,Y,Y] (by kernel_rfl) rfl rfl ⟨(qj BK101.out 0).trans rfl,(qj BK101.out 1).trans rfl,(qj BK101.out 2).trans rfl,(qj BK101.out 3).trans rfl,(qj BK102.out 0).trans rfl,(qj BK102.out 1).trans rfl,(qj BK102.out 2).trans rfl,(qj BK102.out 3).trans rfl⟩ (fun hHeld=>?_);refine with_tabW xj.tab1 xj.bits1 (fun HT_ HW_=>?_)
 generalize w9.drew=w10 at BK101 BK102 HB hHeld ⊢
 refine pure_ (i:=0) (N:=some 5) (v:=?_) (a':=?_) #[Z,Y,Y,Y,Y,Y,Y,Y,Y,Y,Y,Y,Y,Y,Y,Y,Y,Y,Y,Y,Y,Y,Y] rfl rfl (any_of HT_.out (by kernel_rfl)) (fun _ _ _ h=>h) (Or.inl ⟨by rfl,?_⟩) ?_ ?_
 rotate_left
 ·intro w'
  go_simp
  with_reducible rfl
 rotate_left
 ·simp only[Act.put,jq5,jq6,jq7,i64_w,i32_w]
  rfl
 refine pure_ (i:=2) (N:=some 7) (v:=?_) (a':=?_) #[Z,Y,Z,Y,Y,Y,Y,Y,Y,Y,Y,Y,Y,Y,Y,Y,Y,Y,Y,Y,Y,Y,Y] rfl rfl (any_of HT_.out (by kernel_rfl)) (fun _ _ _ h=>h) (Or.inl ⟨by rfl,?_⟩) ?_ ?_
 rotate_left
 ·intro w'
  go_simp
  with_reducible rfl
 rotate_left
 ·simp only[Act.put,jq5,jq6,jq7,i64_w,i32_w]
  rfl
 refine pure_ (i:=5) (N:=some 10) (v:=?_) (a':=?_) #[Z,Y,Z,Y,Y,Z,Y,Y,Y,Y,Y,Y,Y,Y,Y,Y,Y,Y,Y,Y,Y,Y,Y] rfl rfl (any_of HT_.out (by kernel_rfl)) (fun _ _ _ h=>h) (Or.inl ⟨by rfl,?_⟩) ?_ ?_
 rotate_left
 ·intro w'
  go_simp
  with_reducible rfl
 rotate_left
 ·simp only[Act.put,jq5,jq6,jq7,i64_w,i32_w]
  rfl
 refine pure_ (i:=7) (N:=some 12) (v:=?_) (a':=?_) #[Z,Y,Z,Y,Y,Z,Y,Z,Y,Y,Y,Y,Y,Y,Y,Y,Y,Y,Y,Y,Y,Y,Y] rfl rfl (any_of HT_.out (by kernel_rfl)) (fun _ _ _ h=>h) (Or.inl ⟨by rfl,?_⟩) ?_ ?_
 rotate_left
 ·intro w'
  go_simp
  with_reducible rfl
 rotate_left
 ·simp only[Act.put,jq5,jq6,jq7,i64_w,i32_w]
  rfl
 refine pure_ (i:=10) (N:=some 15) (v:=?_) (a':=?_) #[Z,Y,Z,Y,Y,Z,Y,Z,Y,Y,Z,Y,Y,Y,Y,Y,Y,Y,Y,Y,Y,Y,Y] rfl rfl (any_of HT_.out (by kernel_rfl)) (fun _ _ _ h=>h) (Or.inl ⟨by rfl,?_⟩) ?_ ?_
 rotate_left
 ·intro w'
  go_simp
  with_reducible rfl
 rotate_left
 ·simp only[Act.put,jq5,jq6,jq7,i64_w,i32_w]
  rfl
 refine pure_ (i:=12) (N:=some 17) (v:=?_) (a':=?_) #[Z,Y,Z,Y,Y,Z,Y,Z,Y,Y,Z,Y,Z,Y,Y,Y,Y,Y,Y,Y,Y,Y,Y] rfl rfl (any_of HT_.out (by kernel_rfl)) (fun _ _ _ h=>h) (Or.inl ⟨by rfl,?_⟩) ?_ ?_
 rotate_left
 ·intro w'
  go_simp
  with_reducible rfl
 rotate_left
 ·simp only[Act.put,jq5,jq6,jq7,i64_w,i32_w]
  rfl
 refine pure_ (i:=15) (N:=some 20) (v:=?_) (a':=?_) #[Z,Y,Z,Y,Y,Z,Y,Z,Y,Y,Z,Y,Z,Y,Y,Z,Y,Y,Y,Y,Y,Y,Y] rfl rfl (any_of HT_.out (by kernel_rfl)) (fun _ _ _ h=>h) (Or.inl ⟨by rfl,?_⟩) ?_ ?_
 rotate_left
 ·intro w'
  go_simp
  with_reducible rfl
 rotate_left
 ·simp only[Act.put,jq5,jq6,jq7,i64_w,i32_w]
  rfl
 refine pure_ (i:=17) (N:=some 22) (v:=?_) (a':=?_) #[Z,Y,Z,Y,Y,Z,Y,Z,Y,Y,Z,Y,Z,Y,Y,Z,Y,Z,Y,Y,Y,Y,Y] rfl rfl (any_of HT_.out (by kernel_rfl)) (fun _ _ _ h=>h) (Or.inl ⟨by rfl,?_⟩) ?_ ?_
 rotate_left
 ·intro w'
  go_simp
  with_reducible rfl
 rotate_left
 ·simp only[Act.put,jq5,jq6,jq7,i64_w,i32_w]
  rfl
 refine take_ (i:=1) (N:=some 6) (v:=?_) (a':=?_) #[Z,Z,Z,Y,Y,Z,Y,Z,Y,Y,Z,Y,Z,Y,Y,Z,Y,Z,Y,Y,Y,Y,Y] rfl rfl (take_ofW HT_.out HW_.out (by kernel_rfl)) (fun _ _ _ h=>h) (Or.inl ⟨by rfl,?_⟩) hHeld ?_ ?_
 rotate_left
 ·rintro w' ⟨s0,s1,s2,s3,s4,s5,s6,s7⟩
  go_simp
  with_reducible rfl
 rotate_left
 ·simp only[Act.put,jq5,jq6,jq7,i64_w,i32_w]
  rfl
 refine take_ (i:=3) (N:=some 8) (v:=?_) (a':=?_) #[Z,Z,Z,Z,Y,Z,Y,Z,Y,Y,Z,Y,Z,Y,Y,Z,Y,Z,Y,Y,Y,Y,Y] rfl rfl (take_ofW HT_.out HW_.out (by kernel_rfl)) (fun _ _ _ h=>h) (Or.inl ⟨by rfl,?_⟩) hHeld ?_ ?_
 rotate_left
 ·rintro w' ⟨s0,s1,s2,s3,s4,s5,s6,s7⟩
  go_simp
  with_reducible rfl
 rotate_left
 ·simp only[Act.put,jq5,jq6,jq7,i64_w,i32_w]
  rfl
 refine take_ (i:=6) (N:=some 11) (v:=?_) (a':=?_) #[Z,Z,Z,Z,Y,Z,Z,Z,Y,Y,Z,Y,Z,Y,Y,Z,Y,Z,Y,Y,Y,Y,Y] rfl rfl (take_ofW HT_.out HW_.out (by kernel_rfl)) (fun _ _ _ h=>h) (Or.inl ⟨by rfl,?_⟩) hHeld ?_ ?_
 rotate_left
 ·rintro w' ⟨s0,s1,s2,s3,s4,s5,s6,s7⟩
  go_simp
  with_reducible rfl
 rotate_left
 ·simp only[Act.put,jq5,jq6,jq7,i64_w,i32_w]
  rfl
 refine take_ (i:=8) (N:=some 13) (v:=?_) (a':=?_) #[Z,Z,Z,Z,Y,Z,Z,Z,Z,Y,Z,Y,Z,Y,Y,Z,Y,Z,Y,Y,Y,Y,Y] rfl rfl (take_ofW HT_.out HW_.out (by kernel_rfl)) (fun _ _ _ h=>h) (Or.inl ⟨by rfl,?_⟩) hHeld ?_ ?_
 rotate_left
 ·rintro w' ⟨s0,s1,s2,s3,s4,s5,s6,s7⟩
  go_simp
  with_reducible rfl
 rotate_left
 ·simp only[Act.put,jq5,jq6,jq7,i64_w,i32_w]
  rfl
 refine take_ (i:=11) (N:=some 16) (v:=?_) (a':=?_) #[Z,Z,Z,Z,Y,Z,Z,Z,Z,Y,Z,Z,Z,Y,Y,Z,Y,Z,Y,Y,Y,Y,Y] rfl rfl (take_ofW HT_.out HW_.out (by kernel_rfl)) (fun _ _ _ h=>h) (Or.inl ⟨by rfl,?_⟩) hHeld ?_ ?_
 rotate_left
 ·rintro w' ⟨s0,s1,s2,s3,s4,s5,s6,s7⟩
  go_simp
  with_reducible rfl
 rotate_left
 ·simp only[Act.put,jq5,jq6,jq7,i64_w,i32_w]
  rfl
 refine take_ (i:=13) (N:=some 18) (v:=?_) (a':=?_) #[Z,Z,Z,Z,Y,Z,Z,Z,Z,Y,Z,Z,Z,Z,Y,Z,Y,Z,Y,Y,Y,Y,Y] rfl rfl (take_ofW HT_.out HW_.out (by kernel_rfl)) (fun _ _ _ h=>h) (Or.inl ⟨by rfl,?_⟩) hHeld ?_ ?_
 rotate_left
 ·rintro w' ⟨s0,s1,s2,s3,s4,s5,s6,s7⟩
  go_simp
  with_reducible rfl
 rotate_left
 ·simp only[Act.put,jq5,jq6,jq7,i64_w,i32_w]
  rfl
 refine take_ (i:=16) (N:=some 21) (v:=?_) (a':=?_) #[Z,Z,Z,Z,Y,Z,Z,Z,Z,Y,Z,Z,Z,Z,Y,Z,Z,Z,Y,Y,Y,Y,Y] rfl rfl (take_ofW HT_.out HW_.out (by kernel_rfl)) (fun _ _ _ h=>h) (Or.inl ⟨by rfl,?_⟩) hHeld ?_ ?_
 rotate_left
 ·rintro w' ⟨s0,s1,s2,s3,s4,s5,s6,s7⟩
  go_simp
  with_reducible rfl
 rotate_left
 ·simp only[Act.put,jq5,jq6,jq7,i64_w,i32_w]
  rfl
 refine take_ (i:=18) (N:=some 23) (v:=?_) (a':=?_) #[Z,Z,Z,Z,Y,Z,Z,Z,Z,Y,Z,Z,Z,Z,Y,Z,Z,Z,Z,Y,Y,Y,Y] rfl rfl (take_ofW HT_.out HW_.out (by kernel_rfl)) (fun _ _ _ h=>h) (Or.inl ⟨by rfl,?_⟩) hHeld ?_ ?_
 rotate_left
 ·rintro w' ⟨s0,s1,s2,s3,s4,s5,s6,s7⟩
  go_simp
  with_reducible rfl
 rotate_left
 ·simp only[Act.put,jq5,jq6,jq7,i64_w,i32_w]
  rfl
 refine one_ (i:=4) (N:=some 9) #[Z,Z,Z,Z,Z,Z,Z,Z,Z,Y,Z,Z,Z,Z,Y,Z,Z,Z,Z,Y,Y,Y,Y] rfl rfl (one_of HT_.out (by kernel_rfl)) (by decide) (fun K hK=>?_)
 refine goes_ Try.func141 (by kernel_rfl) rfl #[.int .i64 a0_0,.int .i64 a1_0] (by rfl) rfl rfl (by(try simp only[jq0,jq1,jq2]);first|done|rfl|(simp only[jq3,jq4];rfl)) ?_
 with_reducible refine(cmp_Compare_int.calls a0_0 a1_0 t103 _ A3.out).mono ?_
 rintro e w' ⟨rfl,⟨nd,rfl⟩⟩
 refine⟨_,rfl,?_⟩
 refine hK.out _ _ ⟨(qj BK101.out 0).trans rfl,(qj BK101.out 1).trans rfl,(qj BK101.out 2).trans rfl,(qj BK101.out 3).trans rfl,(qj BK102.out 0).trans rfl,(qj BK102.out 1).trans rfl,(qj BK102.out 2).trans rfl,(qj BK102.out 3).trans rfl⟩ (fun hHeld=>?_)
 clear hK K
 refine norm_ (a':=?_) ?_ ?_
 rotate_left
 ·show Act.put _ (some 9) _=_
  simp only[Act.put,jq5,jq6,jq7,i64_w,i32_w]
  rfl
 refine one_ (i:=9) (N:=some 14) #[Z,Z,Z,Z,Z,Z,Z,Z,Z,Z,Z,Z,Z,Z,Y,Z,Z,Z,Z,Y,Y,Y,Y] rfl rfl (one_of HT_.out (by kernel_rfl)) (by decide) (fun K hK=>?_)
 refine goes_ Try.func141 (by kernel_rfl) rfl #[.int .i64 a0_1,.int .i64 a1_1] (by rfl) rfl rfl (by(try simp only[jq0,jq1,jq2]);first|done|rfl|(simp only[jq3,jq4];rfl)) ?_
 with_reducible refine(cmp_Compare_int.calls a0_1 a1_1 t104 _ A4.out).mono ?_
 rintro e w' ⟨rfl,⟨nd,rfl⟩⟩
 refine⟨_,rfl,?_⟩
 refine hK.out _ _ ⟨(qj BK101.out 0).trans rfl,(qj BK101.out 1).trans rfl,(qj BK101.out 2).trans rfl,(qj BK101.out 3).trans rfl,(qj BK102.out 0).trans rfl,(qj BK102.out 1).trans rfl,(qj BK102.out 2).trans rfl,(qj BK102.out 3).trans rfl⟩ (fun hHeld=>?_)
 clear hK K
 refine norm_ (a':=?_) ?_ ?_
 rotate_left
 ·show Act.put _ (some 14) _=_
  simp only[Act.put,jq5,jq6,jq7,i64_w,i32_w]
  rfl
 refine one_ (i:=14) (N:=some 19) #[Z,Z,Z,Z,Z,Z,Z,Z,Z,Z,Z,Z,Z,Z,Z,Z,Z,Z,Z,Y,Y,Y,Y] rfl rfl (one_of HT_.out (by kernel_rfl)) (by decide) (fun K hK=>?_)
 refine goes_ Try.func142 (by kernel_rfl) rfl #[.string a0_3,.string a1_3] (by rfl) rfl rfl (by(try simp only[jq0,jq1,jq2]);first|done|rfl|(simp only[jq3,jq4];rfl)) ?_
 with_reducible refine(cmp_Compare_string.calls a0_3 a1_3 t105 _ A5.out).mono ?_
 rintro e w' ⟨rfl,⟨nd,rfl⟩⟩
 refine⟨_,rfl,?_⟩
 refine hK.out _ _ ⟨(qj BK101.out 0).trans rfl,(qj BK101.out 1).trans rfl,(qj BK101.out 2).trans rfl,(qj BK101.out 3).trans rfl,(qj BK102.out 0).trans rfl,(qj BK102.out 1).trans rfl,(qj BK102.out 2).trans rfl,(qj BK102.out 3).trans rfl⟩ (fun hHeld=>?_)
 clear hK K
 refine norm_ (a':=?_) ?_ ?_
 rotate_left
 ·show Act.put _ (some 19) _=_
  simp only[Act.put,jq5,jq6,jq7,i64_w,i32_w]
  rfl
 refine one_ (i:=19) (N:=some 24) #[Z,Z,Z,Z,Z,Z,Z,Z,Z,Z,Z,Z,Z,Z,Z,Z,Z,Z,Z,Z,Y,Y,Y] rfl rfl (one_of HT_.out (by kernel_rfl)) (by decide) (fun K hK=>?_)
 refine goes_ Try.func142 (by kernel_rfl) rfl #[.string a0_2,.string a1_2] (by rfl) rfl rfl (by(try simp only[jq0,jq1,jq2]);first|done|rfl|(simp only[jq3,jq4];rfl)) ?_
 with_reducible refine(cmp_Compare_string.calls a0_2 a1_2 t106 _ A6.out).mono ?_
 rintro e w' ⟨rfl,⟨nd,rfl⟩⟩
 refine⟨_,rfl,?_⟩
 refine hK.out _ _ ⟨(qj BK101.out 0).trans rfl,(qj BK101.out 1).trans rfl,(qj BK101.out 2).trans rfl,(qj BK101.out 3).trans rfl,(qj BK102.out 0).trans rfl,(qj BK102.out 1).trans rfl,(qj BK102.out 2).trans rfl,(qj BK102.out 3).trans rfl⟩ (fun hHeld=>?_)
 clear hK K
 refine norm_ (a':=?_) ?_ ?_
 rotate_left
 ·show Act.put _ (some 24) _=_
  simp only[Act.put,jq5,jq6,jq7,i64_w,i32_w]
  rfl
 refine one_ (i:=20) (N:=some 25) #[Z,Z,Z,Z,Z,Z,Z,Z,Z,Z,Z,Z,Z,Z,Z,Z,Z,Z,Z,Z,Z,Y,Y] rfl rfl (one_of HT_.out (by kernel_rfl)) (by decide) (fun K hK=>?_)
 refine R_lit_stepG (Kd.int .i64) 3 ?hg (N:=25) ?hd (xs:=([t103,t104,t105,t106]:List Int)) (inner:=[.int .i64 t103,.int .i64 t104,.int .i64 t105,.int .i64 t106]) (ok:=fun _=>True) (okp:=fun _=>True) ?hr ?hp (fun _ hk=>hk) trivial (by simp) ?_;(case hd=>rfl);(case hg=>rfl);(case hr=>first|(go_simp;done)|(go_simp;rfl));(case hp=>exact(Reps.one (show Kd.M (Kd.int .i64) _ _ _ t103 [.int .i64 t103] from rfl) (Reps.one (show Kd.M (Kd.int .i64) _ _ _ t104 [.int .i64 t104] from rfl) (Reps.one (show Kd.M (Kd.int .i64) _ _ _ t105 [.int .i64 t105] from rfl) (Reps.one (show Kd.M (Kd.int .i64) _ _ _ t106 [.int .i64 t106] from rfl) (Reps.none _ _))))))
 intro v108 w11 ho12 hb hg_ hnew_
 clear hg_ hnew_
 (first|rw[← Ny107.out] at ho12|(simp only[Int.reduceToNat] at ho12;rw[← Ny107.out] at ho12))
 have HO109:=U.mk (Kd.R_lower ho12 (gb_size (by solve_by_elim only[HB.out,gb_alloc,gb_drewN,gb_drew1])))
 replace BK101:=U.mk (kv (g:=gb101) (o:=.cells #[.int .i64 a0_0,.int .i64 a0_1,.string a0_2,.string a0_3] 34 (0,0)) (by solve_by_elim only[BK101.out,qw,qx,qv]) hb.1)
 replace BK102:=U.mk (kv (g:=gb102) (o:=.cells #[.int .i64 a1_0,.int .i64 a1_1,.string a1_2,.string a1_3] 34 (0,0)) (by solve_by_elim only[BK102.out,qw,qx,qv]) hb.1)
 replace HB:=U.mk (gb_step (by solve_by_elim only[HB.out,gb_alloc,gb_drewN,gb_drew1]) hb)
 clear hb ho12
 obtain⟨Ao13,co13,eo13⟩:=Kd.R_slice HO109.out
 (first|subst eo13|(injection eo13 with f1_ f2_ f3_;have f4_:=f1_.symm;have f5_:=f3_.symm;clear f1_ f2_ f3_;subst f4_;subst f5_))
 refine hK.out _ _ ⟨(qj BK101.out 0).trans rfl,(qj BK101.out 1).trans rfl,(qj BK101.out 2).trans rfl,(qj BK101.out 3).trans rfl,(qj BK102.out 0).trans rfl,(qj BK102.out 1).trans rfl,(qj BK102.out 2).trans rfl,(qj BK102.out 3).trans rfl⟩ (fun hHeld=>?_)
 clear hK K
 refine norm_ (a':=?_) ?_ ?_
 rotate_left
 ·show Act.put _ (some 25) _=_
  simp only[Act.put,jq5,jq6,jq7,i64_w,i32_w]
  rfl
 refine one_ (i:=21) (N:=some 26) #[Z,Z,Z,Z,Z,Z,Z,Z,Z,Z,Z,Z,Z,Z,Z,Z,Z,Z,Z,Z,Z,Z,Y] rfl rfl (one_of HT_.out (by kernel_rfl)) (by decide) (fun K hK=>?_)
 refine goes_ Try.func140 (by kernel_rfl) rfl #[.slice Ao13 y107.length co13] (by rfl) rfl rfl (by(try simp only[jq0,jq1,jq2]);first|done|rfl|(simp only[jq3,jq4];rfl)) ?_
 with_reducible refine(cmp_Or_int.calls k _ _ y107 t110 _ ?side1 ?side2 A7.out).mono ?_
 (case side1=>solve_by_elim only[(Kd.R_reads' HO109.out).2.2,Kd.C_alloc,Kd.C_drewN,Kd.C_drew])
 (case side2=>exact(Kd.R_reads' HO109.out).2.1)
 rintro e w' ⟨rfl,⟨nd,rfl⟩⟩
 refine⟨_,rfl,?_⟩
 refine hK.out _ _ ⟨(qj BK101.out 0).trans rfl,(qj BK101.out 1).trans rfl,(qj BK101.out 2).trans rfl,(qj BK101.out 3).trans rfl,(qj BK102.out 0).trans rfl,(qj BK102.out 1).trans rfl,(qj BK102.out 2).trans rfl,(qj BK102.out 3).trans rfl⟩ (fun hHeld=>?_)
 clear hK K
 refine norm_ (a':=?_) ?_ ?_
 rotate_left
 ·show Act.put _ (some 26) _=_
  simp only[Act.put,jq5,jq6,jq7,i64_w,i32_w]
  rfl
 refine pure_ (i:=22) (N:=some 4) (v:=?_) (a':=?_) #[Z,Z,Z,Z,Z,Z,Z,Z,Z,Z,Z,Z,Z,Z,Z,Z,Z,Z,Z,Z,Z,Z,Z] rfl rfl (any_of HT_.out (by kernel_rfl)) (fun _ _ _ h=>h) (Or.inl ⟨by rfl,?_⟩) ?_ ?_
 rotate_left
 ·intro w'
  go_simp
  with_reducible rfl
 rotate_left
 ·simp only[Act.put,jq5,jq6,jq7,i64_w,i32_w]
  rfl
 refine done_ (done_of HT_.out (by kernel_rfl)) ?_
 try go_wp2
 go_ret
 exact⟨by first|rfl|(simp[*,jv,jk] <;> rfl),by repeat(first|(with_reducible first|exact HB.out|apply gb_alloc|apply gb_drewN|apply gb_drew1)|exact HB.out)⟩
end Go.Proofs.Ytccbjchlcelkgaa.Pr
namespace Go.Proofs.Ytccbjchlcelkgaa.Pr
open Go.RowKit Go.Proofs.YtccbjchlcelkgaaW.PrintWords Go.Proofs.YtccbjchlcelkgaaW.PrintLast Go.Proofs.YtccbjchlcelkgaaW.PrintMore
open Go.Sort (HoldsK flatK size_flatK get_flatK putRowK grow alloc_eq_grow grow_grow)
set_option linter.unusedVariables false
set_option linter.unusedSimpArgs false
def srtaF (x:Nat):Nat:=if x=6 then 91 else if x=15 then 139 else if x=14 then 138 else if x=28 then 175 else if x=29 then 176 else if x=20 then 167 else if x=21 then 168 else if x=22 then 169 else if x=23 then 170 else if x=24 then 171 else if x=25 then 172 else if x=26 then 173 else if x=27 then 174 else if x=46 then 192 else if x=47 then 193 else if x=48 then 194 else if x=49 then 195 else if x=50 then 196 else if x=57 then 204 else x
def srtaT (x:Nat):Nat:=if x=22 then 54 else if x=24 then 34 else if x=25 then 114 else if x=3 then 3 else if x=39 then 93 else if x=0 then 0 else if x=53 then 174 else if x=55 then 80 else if x=4 then 4 else if x=46 then 168 else if x=45 then 167 else if x=50 then 52 else if x=5 then 5 else if x=9 then 9 else if x=66 then 181 else if x=70 then 185 else if x=76 then 188 else if x=77 then 101 else x
def srtaG (x:Nat):Nat :=  x
def srtaRen:Go.Shelf.Ren:=⟨srtaF,srtaT,srtaG⟩
theorem srtaLays:SlLaysF0.n6 Try.prog srtaRen where
 mixed:=by kernel_rfl
 f6 := Exists.intro "slices.SortFunc[[]loop.example/g00036/impl.Atom,loop.example/g00036/impl.Atom]" ⟨by decide, Try.func91.trans (congrArg some (by kernel_rfl))⟩
 f14 := Exists.intro "slices.pdqsortCmpFunc[loop.example/g00036/impl.Atom]" ⟨by decide, Try.func138.trans (congrArg some (by kernel_rfl))⟩
 f15:=Try.func139.trans (congrArg some (by kernel_rfl))
 f20 := Exists.intro "slices.insertionSortCmpFunc[loop.example/g00036/impl.Atom]" ⟨by decide, Try.func167.trans (congrArg some (by kernel_rfl))⟩
 f21 := Exists.intro "slices.heapSortCmpFunc[loop.example/g00036/impl.Atom]" ⟨by decide, Try.func168.trans (congrArg some (by kernel_rfl))⟩
 f22 := Exists.intro "slices.breakPatternsCmpFunc[loop.example/g00036/impl.Atom]" ⟨by decide, Try.func169.trans (congrArg some (by kernel_rfl))⟩
 f23 := Exists.intro "slices.choosePivotCmpFunc[loop.example/g00036/impl.Atom]" ⟨by decide, Try.func170.trans (congrArg some (by kernel_rfl))⟩
 f24 := Exists.intro "slices.reverseRangeCmpFunc[loop.example/g00036/impl.Atom]" ⟨by decide, Try.func171.trans (congrArg some (by kernel_rfl))⟩
 f25 := Exists.intro "slices.partialInsertionSortCmpFunc[loop.example/g00036/impl.Atom]" ⟨by decide, Try.func172.trans (congrArg some (by kernel_rfl))⟩
 f26 := Exists.intro "slices.partitionEqualCmpFunc[loop.example/g00036/impl.Atom]" ⟨by decide, Try.func173.trans (congrArg some (by kernel_rfl))⟩
 f27 := Exists.intro "slices.partitionCmpFunc[loop.example/g00036/impl.Atom]" ⟨by decide, Try.func174.trans (congrArg some (by kernel_rfl))⟩
 f28:=Try.func175.trans (congrArg some (by kernel_rfl))
 f29:=Try.func176.trans (congrArg some (by kernel_rfl))
 f46 := Exists.intro "slices.siftDownCmpFunc[loop.example/g00036/impl.Atom]" ⟨by decide, Try.func192.trans (congrArg some (by kernel_rfl))⟩
 f47:=Try.func193.trans (congrArg some (by kernel_rfl))
 f48:=Try.func194.trans (congrArg some (by kernel_rfl))
 f49 := Exists.intro "slices.medianAdjacentCmpFunc[loop.example/g00036/impl.Atom]" ⟨by decide, Try.func195.trans (congrArg some (by kernel_rfl))⟩
 f50 := Exists.intro "slices.medianCmpFunc[loop.example/g00036/impl.Atom]" ⟨by decide, Try.func196.trans (congrArg some (by kernel_rfl))⟩
 f57 := Exists.intro "slices.order2CmpFunc[loop.example/g00036/impl.Atom]" ⟨by decide, Try.func204.trans (congrArg some (by kernel_rfl))⟩
 t0:=Try.underlying0
 a0:=Try.isAgg0
 z0:=Try.sizeOf0
 v0:=Try.zeroValue0
 t3:=Try.underlying3
 a3:=Try.isAgg3
 z3:=Try.sizeOf3
 v3:=Try.zeroValue3
 t4:=Try.underlying4
 a4:=Try.isAgg4
 z4:=Try.sizeOf4
 v4:=Try.zeroValue4
 t5:=Try.underlying5
 a5:=Try.isAgg5
 z5:=Try.sizeOf5
 v5:=Try.zeroValue5
 t9:=Try.underlying9
 a9:=Try.isAgg9
 z9:=Try.sizeOf9
 v9:=Try.zeroValue9
 t22:=Try.underlying54
 a22:=Try.isAgg54
 z22:=Try.sizeOf54
 v22:=Try.zeroValue54
 t25:=Try.underlying114
 a25:=Try.isAgg114
 z25:=Try.sizeOf114
 v25:=Try.zeroValue114
 t39:=Try.underlying93
 a39:=Try.isAgg93
 z39:=Try.sizeOf93
 v39:=Try.zeroValue93
 t45:=Try.underlying167
 a45:=Try.isAgg167
 z45:=Try.sizeOf167
 v45:=Try.zeroValue167
 t46:=Try.underlying168
 a46:=Try.isAgg168
 z46:=Try.sizeOf168
 v46:=Try.zeroValue168
 t50:=Try.underlying52
 a50:=Try.isAgg52
 z50:=Try.sizeOf52
 v50:=Try.zeroValue52
 t53:=Try.underlying174
 a53:=Try.isAgg174
 z53:=Try.sizeOf174
 v53:=Try.zeroValue174
 t55:=Try.underlying80
 a55:=Try.isAgg80
 z55:=Try.sizeOf80
 v55:=Try.zeroValue80
 t66:=Try.underlying181
 a66:=Try.isAgg181
 z66:=Try.sizeOf181
 v66:=Try.zeroValue181
 t70:=Try.underlying185
 a70:=Try.isAgg185
 z70:=Try.sizeOf185
 v70:=Try.zeroValue185
 t76:=Try.underlying188
 a76:=Try.isAgg188
 z76:=Try.sizeOf188
 v76:=Try.zeroValue188
 t77:=Try.underlying101
 a77:=Try.isAgg101
 z77:=Try.sizeOf101
 v77:=Try.zeroValue101
theorem or4 (a b c d:Int):cmp_Or_int.f 10 [a,b,c,d]=some (lexO a (lexO b (lexO c d))):=by
 have r0:rd [a,b,c,d] 0=a:=rfl
 have r1:rd [a,b,c,d] 1=b:=rfl
 have r2:rd [a,b,c,d] 2=c:=rfl
 have r3:rd [a,b,c,d] 3=d:=rfl
 have w1:wrap64 (0 + 1)=1:=by unfold wrap64;omega
 have w2:wrap64 (1 + 1)=2:=by unfold wrap64;omega
 have w3:wrap64 (2 + 1)=3:=by unfold wrap64;omega
 have w4:wrap64 (3 + 1)=4:=by unfold wrap64;omega
 unfold cmp_Or_int.f
 simp only[cmp_Or_int.l0,List.length_cons,List.length_nil,r0,r1,r2,r3,w1,w2,w3,w4]
 unfold lexO
 by_cases ha:a=0
 ·by_cases hb:b=0
  ·by_cases hc:c=0
   ·by_cases hd:d=0
    ·simp[ha,hb,hc,hd]
    ·simp[ha,hb,hc,hd]
   ·simp[ha,hb,hc]
  ·simp[ha,hb]
 ·simp[ha]
theorem cmpI_f (a b:Int):cmp_Compare_int.f a b=some (cmpI a b):=by
 unfold cmp_Compare_int.f cmp_isNaN_int.f cmpI
 simp only[bne_self_eq_false,Option.bind_some,Bool.false_eq_true,if_false]
 split
 ·rfl
 ·split <;> rfl
theorem atmCmp_calls (x y:AtmT) (W:World):Calls Try.prog 92 #[.agg #[.int .i64 x.f0,.int .i64 x.f1,.string x.f2,.string x.f3],.agg #[.int .i64 y.f0,.int .i64 y.f1,.string y.f2,.string y.f3]] W fun e w'=>e=.returned (.int .i64 (cmpA x y))∧∃ q os',w'=grow (W.drewN q) os':=by
 refine(xj.callsG 10 x.f0 x.f1 x.f2 x.f3 y.f0 y.f1 y.f2 y.f3 (cmpA x y) W ?_).mono ?_
 ·unfold xj.f
  simp only[cmpI_f,cmp_Compare_string.f,Option.bind_some,or4,cmpS_eq]
  rfl
 ·rintro e w' ⟨rfl,_,h⟩
  exact⟨rfl,h⟩
theorem atmLays (blk off size:Nat) (w:World):CmpLays Try.prog 92 #[] encAtm 4 cmpA blk off size w:=fun _ _ _ _ x y=>atmCmp_calls x y _
theorem atmSort_calls (g cap:Nat) (d:Array AtmT) (w:World) (hH:HoldsK encAtm 4 w g 0 d) (hg:g < w.heap.size) (hs:d.size < 4611686018427387904) :
  Calls Try.prog 91 #[.slice (some ⟨g,0,none⟩) d.size cap,.func (.func 92) #[] #[]] w fun e w' =>
   e=.returned (.tuple #[])∧∃ n os,w'=sortWorldK encAtm 4 w g 0 n (d.toList.mergeSort fun x y=>!(ltOf cmpA) y x).toArray os :=
 AnyQ.slices_SortFunc_total srtaLays 4 Try.isAgg34 Try.sizeOf34 encAtm encAtm_len encAtm_one cmpA cmpA_swo 92 #[] g 0 cap d w (enters_of Try.func92 (by kernel_rfl) rfl) (atmLays _ _ _ _) hH hg hs cmpA_total
def sortA (l:List AtmT):List AtmT:=l.mergeSort fun x y=>!(ltOf cmpA) y x
def sort_impl_ycmpAtom.f (k:Nat) (l:List AtmT):Option (List AtmT):=if l.length < 4611686018427387904 then some (sortA l) else none
theorem sort_impl_ycmpAtom.mono (l:List AtmT) (k:Nat):LeO (sort_impl_ycmpAtom.f k l) (sort_impl_ycmpAtom.f (k + 1) l):=LeO.refl _
theorem sort_impl_ycmpAtom.calls (k:Nat) (P0_:Nat→Prop) (u9000_:Value) (l0:List AtmT) (r1:List AtmT) (w0 w:World) (hB:Below w0.heap.size w0 w) (ho0:Kd.R k34 34 w w0.heap.size P0_ u9000_ l0) (h:sort_impl_ycmpAtom.f k l0=some r1) :
  Calls Try.prog 91 #[u9000_,.func (.func 92) #[] #[]] w fun e w'=>e=.returned (.tuple #[])∧Kd.R k34 34 w' w0.heap.size (fun k_=>(P0_ k_∨w.heap.size≤k_)) u9000_ r1∧Below w0.heap.size w0 w'∧kj w w' (fun k_=>P0_ k_):=by
 unfold sort_impl_ycmpAtom.f at h
 by_cases hs:l0.length < 4611686018427387904
 case neg=>rw[if_neg hs] at h;cases h
 rw[if_pos hs] at h
 obtain rfl:=Option.some.inj h
 by_cases hl:l0=[]
 ·subst hl
  have e0:sortA []=[]:=by simp[sortA]
  rw[e0]
  obtain⟨A,c,rfl⟩:=Kd.R_slice ho0
  refine(AnyF.slices_SortFunc_none srtaLays A c (.func (.func 92) #[] #[]) w).mono ?_
  rintro e w' ⟨rfl,rfl⟩
  exact⟨rfl,Kd.R_mono ho0 (fun k_ hk_=>.inl hk_),hB,Nat.le_refl _,fun i _ _=>rfl⟩
 obtain⟨g,cap,cur,rfl,hg,hok,hh,h1,h2,h3,h4⟩:=atm_open ho0 hl
 have hgl:g < w.heap.size:=(Array.getElem?_eq_some_iff.1 hh).1
 refine(atmSort_calls g cap l0.toArray w (atm_holds hh h4) hgl (by simpa using hs)).mono ?_
 rintro e w' ⟨rfl,n,os,rfl⟩
 have hto:(l0.toArray.toList.mergeSort fun x y=>!(ltOf cmpA) y x).toArray=(sortA l0).toArray:=rfl
 rw[hto]
 have hsz:(sortA l0).length=l0.length:=List.length_mergeSort _
 generalize sortA l0=r at hsz
 refine⟨rfl,?_,?_,atm_size _ _,fun i hi hn=>atm_else _ _ i hi (fun e=>hn (e ▸ hok))⟩
 ·have:=atm_back (l:=r) (base:=w0.heap.size) (ok:=fun k_=>(P0_ k_∨w.heap.size≤k_)) hg (.inl hok) hh (by omega) h2 h3 n os
  rw[hsz] at this
  exact this
 ·exact hB.trans ⟨rfl,rfl,rfl,atm_size _ _,fun i hi=>atm_else _ _ i (Nat.lt_of_lt_of_le hi hB.size) (by omega)⟩
end Go.Proofs.Ytccbjchlcelkgaa.Pr
namespace Go.Proofs.Ytccbjchlcelkgaa.Pr
open Go.RowKit Go.Proofs.YtccbjchlcelkgaaW.PrintWords Go.Proofs.YtccbjchlcelkgaaW.PrintLast Go.Proofs.YtccbjchlcelkgaaW.PrintMore
attribute [local go_sem] max2_int min2_int max_two min_two max_three min_three max_four min_four
set_option linter.unusedVariables false
set_option linter.unusedSimpArgs false
def wx.j0:Nat→List (S34)→Bool→Option (Int × Int × Int × ByteArray × ByteArray × (List (S34)) × List ByteArray)
 | 0,_,_=>none
 | k + 1,x0,x10=>if x10=true then(some (0,0,0,(⟨#[]⟩ : ByteArray),(⟨#[]⟩ : ByteArray),([]:List (S34)),([]:List ByteArray))) else((vx.f x0).bind fun t103=>((sort_impl_ycmpAtom.f k t103).bind fun t106=>((wq.f t106).bind fun t107=>(if (t107.length:Int) > 50 then(some (0,0,0,(⟨#[]⟩ : ByteArray),(⟨#[]⟩ : ByteArray),([]:List (S34)),([]:List ByteArray))) else(some (2,0,0,(⟨#[]⟩ : ByteArray),(⟨#[]⟩ : ByteArray),t107,([]:List ByteArray)))))))
def wx.f (k:Nat) (l0:List (S34)):Option (Int × Int × Int × ByteArray × ByteArray × (List (S34)) × List ByteArray):=if (l0.length:Int) > 1000 then(wx.j0 k l0 true) else((has_impl_SetOf_1.f k l0).bind fun t102=>(wx.j0 k l0 t102))
theorem wx.calls (k:Nat) (A0:Option Addr) (c0:Nat) (l0:List (S34)) (r1:Int) (r2:Int) (r3:Int) (r4:ByteArray) (r5:ByteArray) (r6:List (S34)) (r7:List ByteArray) (w:World) (hr0:Kd.C k34 w A0 l0.length l0) (hc0:l0.length≤c0) (h:wx.f k l0=some (r1,r2,r3,r4,r5,r6,r7)) :
  Calls Try.prog 37 #[.slice A0 l0.length c0] w fun e w'=>∃ v5_ v6_:Value,e=.returned (.agg #[.int .i64 r1,.int .i64 r2,.int .i64 r3,.string r4,.string r5,v5_,v6_])∧Kd.R k34 34 w' w.heap.size (fun _=>True) v5_ r6∧Kd.R Kd.string 9 w' w.heap.size (fun _=>True) v6_ r7∧Below w.heap.size w w':=by
 have hu58:=Try.underlying58
 have HR0:=U.mk hr0
 have HC0:=U.mk hc0
 clear hr0 hc0
 have HB:=U.mk (Below.refl w.heap.size w)
 unfold wx.f at h
 have H:=h
 clear h
 have HC2:=U.mk H
 clear H
 go_enter Try.func37,Try.ntmps37
 go_upto_region 1 with (first|((with_reducible refine gate_dst (N:=2) rfl ?_);refine box_event ?hg (N:=2) ?hd (cs:=#[.int .i64 0,.int .i64 0,.int .i64 0,.string (⟨#[]⟩ : ByteArray),.string (⟨#[]⟩ : ByteArray),.slice none 0 0,.slice none 0 0]) (t:=58) ?hr ?_;(case hd=>rfl);(case hg=>rfl);(case hr=>first|(go_simp;done)|(go_simp;rfl));intro gb101 hg w3 hbox hb;have BK101:=U.mk (hbox);have GW101:=U.mk ((by rw[hg];exact(zj (by solve_by_elim only[HB.out,G,J,qq])):w.heap.size≤gb101));have GE101:=U.mk ((by rw[hg];exact(zj (by solve_by_elim only[HB.out,G,J,qq])):w.heap.size≤gb101));replace HB:=U.mk (zz (by solve_by_elim only[HB.out,G,J,qq]) hb);clear hb hbox hg))
 (try simp only[Act.put,jq5,jq6,jq7])
 go_cut [10] (fun v10 wc=>∃ (kq:Nat) (x10_1:Bool),v10=.bool x10_1∧U (wx.j0 kq l0 x10_1=some (r1,r2,r3,r4,r5,r6,r7))∧U (kq≤k)∧U (wc.heap[gb101]? = some (.cells #[.int .i64 0,.int .i64 0,.int .i64 0,.string (⟨#[]⟩ : ByteArray),.string (⟨#[]⟩ : ByteArray),(.slice none 0 0),(.slice none 0 0)] 58 (0,0)))∧U (Below w.heap.size w wc))
 case first =>
  have H:=HC2.out
  clear HC2
  by_cases c4:(l0.length:Int) > 1000
  ·rw[if_pos c4] at H
   have c4b0:decide (1000 < (l0.length:Int))=true:=decide_eq_true c4
   have c4b1:decide (1000 < l0.length)=true:=decide_eq_true (by omega)
   clear c4
   (first|rw[c4b0]|(simp only[i64_w,i32_w];rw[c4b0])|skip)
   have H':=U.mk H
   clear H
   go_wp2
   go_meet
   case rel=>exact⟨_,(true),(by first|rfl|(simp;done)|(simp[*];done)),H',⟨by first|omega|exact Nat.le_refl _⟩,⟨by(with_reducible repeat(first|refine qw ?_ _|refine qx ?_|refine qv ?_ _));exact BK101.out⟩,⟨by repeat(first|(with_reducible first|exact HB.out|apply G|apply J|apply qq|refine qk ?_ GE101.out)|exact HB.out)⟩⟩
  ·rw[if_neg c4] at H
   have c4b0:decide (1000 < (l0.length:Int))=false:=decide_eq_false c4
   have c4b1:decide (1000 < l0.length)=false:=decide_eq_false (by omega)
   clear c4
   (first|rw[c4b0]|(simp only[i64_w,i32_w];rw[c4b0])|skip)
   replace H:=jq8.mp H
   obtain⟨t102,A50,H⟩:=H
   try dsimp only at H
   have A5:=U.mk A50
   clear A50
   have H':=U.mk H
   clear H
   go_wp2_with (first|(go_at_call 88;(with_reducible refine(has_impl_SetOf_1.calls k _ _ l0 t102 _ ?side1 ?side2 A5.out).mono ?_);(case side1=>solve_by_elim only[(Kd.C_below HR0.out HB.out),Kd.C_alloc,Kd.C_drewN,Kd.C_drew]);(case side2=>exact HC0.out);rintro e w6 ⟨rfl,hb⟩;replace BK101:=U.mk (kv (g:=gb101) (o:=.cells #[.int .i64 0,.int .i64 0,.int .i64 0,.string (⟨#[]⟩ : ByteArray),.string (⟨#[]⟩ : ByteArray),.slice none 0 0,.slice none 0 0] 58 (0,0)) (by solve_by_elim only[BK101.out,qw,qx,qv]) hb);replace HB:=U.mk (zz (by solve_by_elim (maxDepth:=20) only[HB.out,G,J,qq,qk,GE101.out]) hb);(try clear hb)))
   go_meet
   case rel=>exact⟨_,(t102),(by first|rfl|(simp;done)|(simp[*];done)),H',⟨by first|omega|exact Nat.le_refl _⟩,⟨by(with_reducible repeat(first|refine qw ?_ _|refine qx ?_|refine qv ?_ _));exact BK101.out⟩,⟨by repeat(first|(with_reducible first|exact HB.out|apply G|apply J|apply qq|refine qk ?_ GE101.out)|exact HB.out)⟩⟩
 case rest =>
  clear HC2
  try clear p2
  try clear c3
  try clear c4
  try clear c4b0
  try clear c4b1
  obtain⟨kq,x10_1,rfl,HA,HJ1,BK101,HB⟩:=hcut
  cases kq with
  | zero=>exact absurd HA.out (by simp[wx.j0])
  | succ kj1 =>
   have H:=HA.out
   clear HA
   simp only[wx.j0] at H
   by_cases c7:x10_1=true
   ·subst c7
    have H1:(some (0,0,0,(⟨#[]⟩ : ByteArray),(⟨#[]⟩ : ByteArray),([]:List (S34)),([]:List ByteArray)))=some (r1,r2,r3,r4,r5,r6,r7):=by rw[if_pos rfl] at H;exact H
    clear H
    have H:=H1
    clear H1
    simp only[Option.some.injEq,Prod.mk.injEq] at H
    obtain⟨rfl,rfl,rfl,rfl,rfl,rfl,rfl⟩:=H
    have hcz8_0:wc.cell? ⟨gb101,0,none⟩ = some (.int .i64 0):=(qj BK101.out 0).trans rfl
    have hcz8_1:wc.cell? ⟨gb101,1,none⟩ = some (.int .i64 0):=(qj BK101.out 1).trans rfl
    have hcz8_2:wc.cell? ⟨gb101,2,none⟩ = some (.int .i64 0):=(qj BK101.out 2).trans rfl
    have hcz8_3:wc.cell? ⟨gb101,3,none⟩ = some (.string (⟨#[]⟩ : ByteArray)):=(qj BK101.out 3).trans rfl
    have hcz8_4:wc.cell? ⟨gb101,4,none⟩ = some (.string (⟨#[]⟩ : ByteArray)):=(qj BK101.out 4).trans rfl
    have hcz8_5:wc.cell? ⟨gb101,5,none⟩ = some (.slice none 0 0):=(qj BK101.out 5).trans rfl
    have hcz8_6:wc.cell? ⟨gb101,6,none⟩ = some (.slice none 0 0):=(qj BK101.out 6).trans rfl
    have hfz8_0:=qz BK101.out 0
    have hfz8_1:=qz BK101.out 1
    have hfz8_2:=qz BK101.out 2
    have hfz8_3:=qz BK101.out 3
    have hfz8_4:=qz BK101.out 4
    have hfz8_5:=qz BK101.out 5
    have hfz8_6:=qz BK101.out 6
    go_wp2
    refine bodyPost_ret (results_cell_row rfl _ _ gb101 58 #[.int .i64 0,.int .i64 0,.int .i64 0,.string (⟨#[]⟩ : ByteArray),.string (⟨#[]⟩ : ByteArray),.slice none 0 0,.slice none 0 0] (0,0) _ rfl (by(with_reducible repeat(first|refine qw ?_ _|refine qx ?_|refine qv ?_ _));refine blk_put (cs:=#[.int .i64 0,.int .i64 0,.int .i64 0,.string (⟨#[]⟩ : ByteArray),.string (⟨#[]⟩ : ByteArray),.slice none 0 0,.slice none 0 0]) ?_ 6 _ rfl;(with_reducible repeat(first|refine qw ?_ _|refine qx ?_|refine qv ?_ _));refine blk_put (cs:=#[.int .i64 0,.int .i64 0,.int .i64 0,.string (⟨#[]⟩ : ByteArray),.string (⟨#[]⟩ : ByteArray),.slice none 0 0,.slice none 0 0]) ?_ 5 _ rfl;(with_reducible repeat(first|refine qw ?_ _|refine qx ?_|refine qv ?_ _));refine blk_put (cs:=#[.int .i64 0,.int .i64 0,.int .i64 0,.string (⟨#[]⟩ : ByteArray),.string (⟨#[]⟩ : ByteArray),.slice none 0 0,.slice none 0 0]) ?_ 4 _ rfl;(with_reducible repeat(first|refine qw ?_ _|refine qx ?_|refine qv ?_ _));refine blk_put (cs:=#[.int .i64 0,.int .i64 0,.int .i64 0,.string (⟨#[]⟩ : ByteArray),.string (⟨#[]⟩ : ByteArray),.slice none 0 0,.slice none 0 0]) ?_ 3 _ rfl;(with_reducible repeat(first|refine qw ?_ _|refine qx ?_|refine qv ?_ _));refine blk_put (cs:=#[.int .i64 0,.int .i64 0,.int .i64 0,.string (⟨#[]⟩ : ByteArray),.string (⟨#[]⟩ : ByteArray),.slice none 0 0,.slice none 0 0]) ?_ 2 _ rfl;(with_reducible repeat(first|refine qw ?_ _|refine qx ?_|refine qv ?_ _));refine blk_put (cs:=#[.int .i64 0,.int .i64 0,.int .i64 0,.string (⟨#[]⟩ : ByteArray),.string (⟨#[]⟩ : ByteArray),.slice none 0 0,.slice none 0 0]) ?_ 1 _ rfl;(with_reducible repeat(first|refine qw ?_ _|refine qx ?_|refine qv ?_ _));refine blk_put (cs:=#[.int .i64 0,.int .i64 0,.int .i64 0,.string (⟨#[]⟩ : ByteArray),.string (⟨#[]⟩ : ByteArray),.slice none 0 0,.slice none 0 0]) ?_ 0 _ rfl;(with_reducible repeat(first|refine qw ?_ _|refine qx ?_|refine qv ?_ _));exact BK101.out) Try.underlying58 rfl (by kernel_rfl)) rfl ?_
    exact⟨_,_,by first|rfl|(simp[*,jv,jk] <;> rfl),by first|exact Kd.R_nil _ _ _ _ _|exact Kd.N_nil _ _ _ _ _|exact Kd.V_nil _ _ _ _ _|exact Kd.Q_nil _ _ _ _ _|exact Kd.S_nil _ _ _ _ _,by first|exact Kd.R_nil _ _ _ _ _|exact Kd.N_nil _ _ _ _ _|exact Kd.V_nil _ _ _ _ _|exact Kd.Q_nil _ _ _ _ _|exact Kd.S_nil _ _ _ _ _,by repeat(first|(with_reducible first|exact HB.out|apply G|apply J|apply qq|refine qk ?_ GE101.out)|exact HB.out)⟩
   ·replace c7:=jq9.mpr c7
    subst c7
    have H1:((vx.f l0).bind fun t103=>((sort_impl_ycmpAtom.f kj1 t103).bind fun t106=>((wq.f t106).bind fun t107=>(if (t107.length:Int) > 50 then(some (0,0,0,(⟨#[]⟩ : ByteArray),(⟨#[]⟩ : ByteArray),([]:List (S34)),([]:List ByteArray))) else(some (2,0,0,(⟨#[]⟩ : ByteArray),(⟨#[]⟩ : ByteArray),t107,([]:List ByteArray)))))))=some (r1,r2,r3,r4,r5,r6,r7):=by rw[if_neg (show ¬ (false=true) by decide)] at H;exact H
    clear H
    have H:=H1
    clear H1
    replace H:=jq8.mp H
    obtain⟨t103,A90,H⟩:=H
    try dsimp only at H
    have A9:=U.mk A90
    clear A90
    replace H:=jq8.mp H
    obtain⟨t106,A100,H⟩:=H
    try dsimp only at H
    have A10:=U.mk A100
    clear A100
    replace H:=jq8.mp H
    obtain⟨t107,A110,H⟩:=H
    try dsimp only at H
    have A11:=U.mk A110
    clear A110
    by_cases c12:(t107.length:Int) > 50
    ·rw[if_pos c12] at H
     have c12b0:decide (50 < (t107.length:Int))=true:=decide_eq_true c12
     have c12b1:decide (50 < t107.length)=true:=decide_eq_true (by omega)
     clear c12
     simp only[Option.some.injEq,Prod.mk.injEq] at H
     obtain⟨rfl,rfl,rfl,rfl,rfl,rfl,rfl⟩:=H
     go_wp2_with (first|((with_reducible refine jw (f:=90) rfl ?_);refine goesL_ (some 13) rfl rfl Try.func90 (by kernel_rfl) rfl #[.slice A0 l0.length c0] rfl (by(try simp only[jq0,jq1,jq2]);first|done|rfl|(simp only[jq3,jq4];rfl)) ?_;(with_reducible refine(vx.calls _ _ l0 t103 _ ?side1 ?side2 A9.out).mono ?_);(case side1=>solve_by_elim only[(Kd.C_below HR0.out HB.out),Kd.C_alloc,Kd.C_drewN,Kd.C_drew]);(case side2=>exact HC0.out);rintro e w13 ⟨v104,rfl,ho0,hb⟩;refine⟨_,rfl,?_⟩;have HO105:=U.mk (Kd.R_lower ho0 (zj (by solve_by_elim (maxDepth:=20) only[HB.out,G,J,qq,qk,GE101.out])));replace BK101:=U.mk (kv (g:=gb101) (o:=.cells #[.int .i64 0,.int .i64 0,.int .i64 0,.string (⟨#[]⟩ : ByteArray),.string (⟨#[]⟩ : ByteArray),.slice none 0 0,.slice none 0 0] 58 (0,0)) (by solve_by_elim only[BK101.out,qw,qx,qv]) hb);replace HB:=U.mk (zz (by solve_by_elim (maxDepth:=20) only[HB.out,G,J,qq,qk,GE101.out]) hb);(try clear hb ho0);obtain⟨Ao14,co14,eo14⟩:=Kd.R_slice HO105.out;subst eo14)|((with_reducible refine jw (f:=91) rfl ?_);refine goesL_ (some 15) rfl rfl Try.func91 (by kernel_rfl) rfl #[.slice Ao14 t103.length co14,.func (.func 92) #[] #[]] rfl (by(try simp only[jq0,jq1,jq2]);first|done|rfl|(simp only[jq3,jq4];rfl)) ?_;(with_reducible refine(sort_impl_ycmpAtom.calls kj1 (fun k_=>some k_=(.slice Ao14 t103.length co14:Value).ownBlock) (.slice Ao14 t103.length co14) t103 t106 w _ ?side1 ?side2 A10.out).mono ?_);(case side1=>repeat(first|(with_reducible first|exact HB.out|apply G|apply J|apply qq|refine qk ?_ GE101.out)|exact HB.out));(case side2=>exact Kd.R_tight rfl HO105.out);rintro e w15 ⟨rfl,hy0,hb,hkp⟩;refine⟨_,rfl,?_⟩;replace BK101:=U.mk (blk_kept (by solve_by_elim only[BK101.out,qw,qx,qv]) hkp (fun hs_=>(fun e_=>(Kd.R_ne HO105.out BK101.out (by decide)) e_) hs_));replace HO105:=U.mk (Kd.R_reok rfl hy0 (fun k_ e_=>HO105.out.1 k_ e_));replace HB:=U.mk (hb);(try clear hb hkp hy0))|((with_reducible refine jw (f:=93) rfl ?_);refine goesL_ (some 17) rfl rfl Try.func93 (by kernel_rfl) rfl #[.slice Ao14 t103.length co14] rfl (by(try simp only[jq0,jq1,jq2]);first|done|rfl|(simp only[jq3,jq4];rfl)) ?_;(with_reducible refine(wq.calls (fun k_=>some k_=(.slice Ao14 t103.length co14:Value).ownBlock) (.slice Ao14 t103.length co14) t106 t107 w _ ?side1 ?side2 A11.out).mono ?_);(case side1=>repeat(first|(with_reducible first|exact HB.out|apply G|apply J|apply qq|refine qk ?_ GE101.out)|exact HB.out));(case side2=>exact Kd.R_tight rfl HO105.out);rintro e w16 ⟨v108,rfl,ho0,hb,hkp⟩;refine⟨_,rfl,?_⟩;replace BK101:=U.mk (blk_kept (by solve_by_elim only[BK101.out,qw,qx,qv]) hkp (fun hs_=>(fun e_=>(Kd.R_ne HO105.out BK101.out (by decide)) e_) hs_));have HO109:=U.mk (Kd.R_mono (ok':=fun k_=>True) ho0 (fun k_ hk_=>trivial));replace HB:=U.mk (hb);clear HO105;(try clear hb hkp ho0);obtain⟨Ao17,co17,eo17⟩:=Kd.R_slice HO109.out;subst eo17;have hcz18_0:w16.cell? ⟨gb101,0,none⟩ = some (.int .i64 0):=(qj BK101.out 0).trans rfl;have hcz18_1:w16.cell? ⟨gb101,1,none⟩ = some (.int .i64 0):=(qj BK101.out 1).trans rfl;have hcz18_2:w16.cell? ⟨gb101,2,none⟩ = some (.int .i64 0):=(qj BK101.out 2).trans rfl;have hcz18_3:w16.cell? ⟨gb101,3,none⟩ = some (.string (⟨#[]⟩ : ByteArray)):=(qj BK101.out 3).trans rfl;have hcz18_4:w16.cell? ⟨gb101,4,none⟩ = some (.string (⟨#[]⟩ : ByteArray)):=(qj BK101.out 4).trans rfl;have hcz18_5:w16.cell? ⟨gb101,5,none⟩ = some (.slice none 0 0):=(qj BK101.out 5).trans rfl;have hcz18_6:w16.cell? ⟨gb101,6,none⟩ = some (.slice none 0 0):=(qj BK101.out 6).trans rfl;have hfz18_0:=qz BK101.out 0;have hfz18_1:=qz BK101.out 1;have hfz18_2:=qz BK101.out 2;have hfz18_3:=qz BK101.out 3;have hfz18_4:=qz BK101.out 4;have hfz18_5:=qz BK101.out 5;have hfz18_6:=qz BK101.out 6))
     refine bodyPost_ret (results_cell_row rfl _ _ gb101 58 #[.int .i64 0,.int .i64 0,.int .i64 0,.string (⟨#[]⟩ : ByteArray),.string (⟨#[]⟩ : ByteArray),.slice none 0 0,.slice none 0 0] (0,0) _ rfl (by(with_reducible repeat(first|refine qw ?_ _|refine qx ?_|refine qv ?_ _));refine blk_put (cs:=#[.int .i64 0,.int .i64 0,.int .i64 0,.string (⟨#[]⟩ : ByteArray),.string (⟨#[]⟩ : ByteArray),.slice none 0 0,.slice none 0 0]) ?_ 6 _ rfl;(with_reducible repeat(first|refine qw ?_ _|refine qx ?_|refine qv ?_ _));refine blk_put (cs:=#[.int .i64 0,.int .i64 0,.int .i64 0,.string (⟨#[]⟩ : ByteArray),.string (⟨#[]⟩ : ByteArray),.slice none 0 0,.slice none 0 0]) ?_ 5 _ rfl;(with_reducible repeat(first|refine qw ?_ _|refine qx ?_|refine qv ?_ _));refine blk_put (cs:=#[.int .i64 0,.int .i64 0,.int .i64 0,.string (⟨#[]⟩ : ByteArray),.string (⟨#[]⟩ : ByteArray),.slice none 0 0,.slice none 0 0]) ?_ 4 _ rfl;(with_reducible repeat(first|refine qw ?_ _|refine qx ?_|refine qv ?_ _));refine blk_put (cs:=#[.int .i64 0,.int .i64 0,.int .i64 0,.string (⟨#[]⟩ : ByteArray),.string (⟨#[]⟩ : ByteArray),.slice none 0 0,.slice none 0 0]) ?_ 3 _ rfl;(with_reducible repeat(first|refine qw ?_ _|refine qx ?_|refine qv ?_ _));refine blk_put (cs:=#[.int .i64 0,.int .i64 0,.int .i64 0,.string (⟨#[]⟩ : ByteArray),.string (⟨#[]⟩ : ByteArray),.slice none 0 0,.slice none 0 0]) ?_ 2 _ rfl;(with_reducible repeat(first|refine qw ?_ _|refine qx ?_|refine qv ?_ _));refine blk_put (cs:=#[.int .i64 0,.int .i64 0,.int .i64 0,.string (⟨#[]⟩ : ByteArray),.string (⟨#[]⟩ : ByteArray),.slice none 0 0,.slice none 0 0]) ?_ 1 _ rfl;(with_reducible repeat(first|refine qw ?_ _|refine qx ?_|refine qv ?_ _));refine blk_put (cs:=#[.int .i64 0,.int .i64 0,.int .i64 0,.string (⟨#[]⟩ : ByteArray),.string (⟨#[]⟩ : ByteArray),.slice none 0 0,.slice none 0 0]) ?_ 0 _ rfl;(with_reducible repeat(first|refine qw ?_ _|refine qx ?_|refine qv ?_ _));exact BK101.out) Try.underlying58 rfl (by kernel_rfl)) rfl ?_
     exact⟨_,_,by first|rfl|(simp[*,jv,jk] <;> rfl),by first|exact Kd.R_nil _ _ _ _ _|exact Kd.N_nil _ _ _ _ _|exact Kd.V_nil _ _ _ _ _|exact Kd.Q_nil _ _ _ _ _|exact Kd.S_nil _ _ _ _ _,by first|exact Kd.R_nil _ _ _ _ _|exact Kd.N_nil _ _ _ _ _|exact Kd.V_nil _ _ _ _ _|exact Kd.Q_nil _ _ _ _ _|exact Kd.S_nil _ _ _ _ _,by repeat(first|(with_reducible first|exact HB.out|apply G|apply J|apply qq|refine qk ?_ GE101.out)|exact HB.out)⟩
    ·rw[if_neg c12] at H
     have c12b0:decide (50 < (t107.length:Int))=false:=decide_eq_false c12
     have c12b1:decide (50 < t107.length)=false:=decide_eq_false (by omega)
     clear c12
     simp only[Option.some.injEq,Prod.mk.injEq] at H
     obtain⟨rfl,rfl,rfl,rfl,rfl,rfl,rfl⟩:=H
     go_wp2_with (first|((with_reducible refine jw (f:=90) rfl ?_);refine goesL_ (some 13) rfl rfl Try.func90 (by kernel_rfl) rfl #[.slice A0 l0.length c0] rfl (by(try simp only[jq0,jq1,jq2]);first|done|rfl|(simp only[jq3,jq4];rfl)) ?_;(with_reducible refine(vx.calls _ _ l0 t103 _ ?side1 ?side2 A9.out).mono ?_);(case side1=>solve_by_elim only[(Kd.C_below HR0.out HB.out),Kd.C_alloc,Kd.C_drewN,Kd.C_drew]);(case side2=>exact HC0.out);rintro e w19 ⟨v104,rfl,ho0,hb⟩;refine⟨_,rfl,?_⟩;have HO105:=U.mk (Kd.R_lower ho0 (zj (by solve_by_elim (maxDepth:=20) only[HB.out,G,J,qq,qk,GE101.out])));replace BK101:=U.mk (kv (g:=gb101) (o:=.cells #[.int .i64 0,.int .i64 0,.int .i64 0,.string (⟨#[]⟩ : ByteArray),.string (⟨#[]⟩ : ByteArray),.slice none 0 0,.slice none 0 0] 58 (0,0)) (by solve_by_elim only[BK101.out,qw,qx,qv]) hb);replace HB:=U.mk (zz (by solve_by_elim (maxDepth:=20) only[HB.out,G,J,qq,qk,GE101.out]) hb);(try clear hb ho0);obtain⟨Ao20,co20,eo20⟩:=Kd.R_slice HO105.out;subst eo20)|((with_reducible refine jw (f:=91) rfl ?_);refine goesL_ (some 15) rfl rfl Try.func91 (by kernel_rfl) rfl #[.slice Ao20 t103.length co20,.func (.func 92) #[] #[]] rfl (by(try simp only[jq0,jq1,jq2]);first|done|rfl|(simp only[jq3,jq4];rfl)) ?_;(with_reducible refine(sort_impl_ycmpAtom.calls kj1 (fun k_=>some k_=(.slice Ao20 t103.length co20:Value).ownBlock) (.slice Ao20 t103.length co20) t103 t106 w _ ?side1 ?side2 A10.out).mono ?_);(case side1=>repeat(first|(with_reducible first|exact HB.out|apply G|apply J|apply qq|refine qk ?_ GE101.out)|exact HB.out));(case side2=>exact Kd.R_tight rfl HO105.out);rintro e w21 ⟨rfl,hy0,hb,hkp⟩;refine⟨_,rfl,?_⟩;replace BK101:=U.mk (blk_kept (by solve_by_elim only[BK101.out,qw,qx,qv]) hkp (fun hs_=>(fun e_=>(Kd.R_ne HO105.out BK101.out (by decide)) e_) hs_));replace HO105:=U.mk (Kd.R_reok rfl hy0 (fun k_ e_=>HO105.out.1 k_ e_));replace HB:=U.mk (hb);(try clear hb hkp hy0))|((with_reducible refine jw (f:=93) rfl ?_);refine goesL_ (some 17) rfl rfl Try.func93 (by kernel_rfl) rfl #[.slice Ao20 t103.length co20] rfl (by(try simp only[jq0,jq1,jq2]);first|done|rfl|(simp only[jq3,jq4];rfl)) ?_;(with_reducible refine(wq.calls (fun k_=>some k_=(.slice Ao20 t103.length co20:Value).ownBlock) (.slice Ao20 t103.length co20) t106 t107 w _ ?side1 ?side2 A11.out).mono ?_);(case side1=>repeat(first|(with_reducible first|exact HB.out|apply G|apply J|apply qq|refine qk ?_ GE101.out)|exact HB.out));(case side2=>exact Kd.R_tight rfl HO105.out);rintro e w22 ⟨v108,rfl,ho0,hb,hkp⟩;refine⟨_,rfl,?_⟩;replace BK101:=U.mk (blk_kept (by solve_by_elim only[BK101.out,qw,qx,qv]) hkp (fun hs_=>(fun e_=>(Kd.R_ne HO105.out BK101.out (by decide)) e_) hs_));have HO109:=U.mk (Kd.R_mono (ok':=fun k_=>True) ho0 (fun k_ hk_=>trivial));replace HB:=U.mk (hb);clear HO105;(try clear hb hkp ho0);obtain⟨Ao23,co23,eo23⟩:=Kd.R_slice HO109.out;subst eo23;have hcz24_0:w22.cell? ⟨gb101,0,none⟩ = some (.int .i64 0):=(qj BK101.out 0).trans rfl;have hcz24_1:w22.cell? ⟨gb101,1,none⟩ = some (.int .i64 0):=(qj BK101.out 1).trans rfl;have hcz24_2:w22.cell? ⟨gb101,2,none⟩ = some (.int .i64 0):=(qj BK101.out 2).trans rfl;have hcz24_3:w22.cell? ⟨gb101,3,none⟩ = some (.string (⟨#[]⟩ : ByteArray)):=(qj BK101.out 3).trans rfl;have hcz24_4:w22.cell? ⟨gb101,4,none⟩ = some (.string (⟨#[]⟩ : ByteArray)):=(qj BK101.out 4).trans rfl;have hcz24_5:w22.cell? ⟨gb101,5,none⟩ = some (.slice none 0 0):=(qj BK101.out 5).trans rfl;have hcz24_6:w22.cell? ⟨gb101,6,none⟩ = some (.slice none 0 0):=(qj BK101.out 6).trans rfl;have hfz24_0:=qz BK101.out 0;have hfz24_1:=qz BK101.out 1;have hfz24_2:=qz BK101.out 2;have hfz24_3:=qz BK101.out 3;have hfz24_4:=qz BK101.out 4;have hfz24_5:=qz BK101.out 5;have hfz24_6:=qz BK101.out 6))
     refine bodyPost_ret (results_cell_row rfl _ _ gb101 58 #[.int .i64 2,.int .i64 0,.int .i64 0,.string (⟨#[]⟩ : ByteArray),.string (⟨#[]⟩ : ByteArray),.slice Ao23 t107.length co23,.slice none 0 0] (0,0) _ rfl (by(with_reducible repeat(first|refine qw ?_ _|refine qx ?_|refine qv ?_ _));refine blk_put (cs:=#[.int .i64 2,.int .i64 0,.int .i64 0,.string (⟨#[]⟩ : ByteArray),.string (⟨#[]⟩ : ByteArray),.slice Ao23 t107.length co23,.slice none 0 0]) ?_ 6 _ rfl;(with_reducible repeat(first|refine qw ?_ _|refine qx ?_|refine qv ?_ _));refine blk_put (cs:=#[.int .i64 2,.int .i64 0,.int .i64 0,.string (⟨#[]⟩ : ByteArray),.string (⟨#[]⟩ : ByteArray),.slice none 0 0,.slice none 0 0]) ?_ 5 _ rfl;(with_reducible repeat(first|refine qw ?_ _|refine qx ?_|refine qv ?_ _));refine blk_put (cs:=#[.int .i64 2,.int .i64 0,.int .i64 0,.string (⟨#[]⟩ : ByteArray),.string (⟨#[]⟩ : ByteArray),.slice none 0 0,.slice none 0 0]) ?_ 4 _ rfl;(with_reducible repeat(first|refine qw ?_ _|refine qx ?_|refine qv ?_ _));refine blk_put (cs:=#[.int .i64 2,.int .i64 0,.int .i64 0,.string (⟨#[]⟩ : ByteArray),.string (⟨#[]⟩ : ByteArray),.slice none 0 0,.slice none 0 0]) ?_ 3 _ rfl;(with_reducible repeat(first|refine qw ?_ _|refine qx ?_|refine qv ?_ _));refine blk_put (cs:=#[.int .i64 2,.int .i64 0,.int .i64 0,.string (⟨#[]⟩ : ByteArray),.string (⟨#[]⟩ : ByteArray),.slice none 0 0,.slice none 0 0]) ?_ 2 _ rfl;(with_reducible repeat(first|refine qw ?_ _|refine qx ?_|refine qv ?_ _));refine blk_put (cs:=#[.int .i64 2,.int .i64 0,.int .i64 0,.string (⟨#[]⟩ : ByteArray),.string (⟨#[]⟩ : ByteArray),.slice none 0 0,.slice none 0 0]) ?_ 1 _ rfl;(with_reducible repeat(first|refine qw ?_ _|refine qx ?_|refine qv ?_ _));refine blk_put (cs:=#[.int .i64 0,.int .i64 0,.int .i64 0,.string (⟨#[]⟩ : ByteArray),.string (⟨#[]⟩ : ByteArray),.slice none 0 0,.slice none 0 0]) ?_ 0 _ rfl;(with_reducible repeat(first|refine qw ?_ _|refine qx ?_|refine qv ?_ _));exact BK101.out) Try.underlying58 rfl (by kernel_rfl)) rfl ?_
     exact⟨_,_,by first|rfl|(simp[*,jv,jk] <;> rfl),by(with_reducible repeat(first|apply Kd.zv|apply Kd.zk|apply Kd.zw));exact Kd.R_mono (Kd.R_far (p:=⟨gb101,6,none⟩) (Kd.R_far (p:=⟨gb101,5,none⟩) (Kd.R_far (p:=⟨gb101,4,none⟩) (Kd.R_far (p:=⟨gb101,3,none⟩) (Kd.R_far (p:=⟨gb101,2,none⟩) (Kd.R_far (p:=⟨gb101,1,none⟩) (Kd.R_far (p:=⟨gb101,0,none⟩) (Kd.R_types HO109.out BK101.out (by decide)) (fun _ hk=>hk.2) (.int .i64 2)) (fun _ hk=>hk.2) (.int .i64 0)) (fun _ hk=>hk.2) (.int .i64 0)) (fun _ hk=>hk.2) (.string (⟨#[]⟩ : ByteArray))) (fun _ hk=>hk.2) (.string (⟨#[]⟩ : ByteArray))) (fun _ hk=>hk.2) (.slice Ao23 t107.length co23)) (fun _ hk=>hk.2) (.slice none 0 0)) (fun _ hk=>trivial),by first|exact Kd.R_nil _ _ _ _ _|exact Kd.N_nil _ _ _ _ _|exact Kd.V_nil _ _ _ _ _|exact Kd.Q_nil _ _ _ _ _|exact Kd.S_nil _ _ _ _ _,by repeat(first|(with_reducible first|exact HB.out|apply G|apply J|apply qq|refine qk ?_ GE101.out)|exact HB.out)⟩
end Go.Proofs.Ytccbjchlcelkgaa.Pr
namespace Go.Proofs.Ytccbjchlcelkgaa.Pr
open Go.RowKit Go.Proofs.YtccbjchlcelkgaaW.PrintWords Go.Proofs.YtccbjchlcelkgaaW.PrintLast Go.Proofs.YtccbjchlcelkgaaW.PrintMore
attribute [local go_sem] max2_int min2_int max_two min_two max_three min_three max_four min_four
set_option linter.unusedVariables false
set_option linter.unusedSimpArgs false
attribute [local go_sem high] eqA34
def qqj.l0:Nat→List (S34)→List (S34)→Int→Int→Option (Bool)
 | 0,_,_,_,_=>none
 | k + 1,x0,x1,x12,x13=>if x13 < x12 then(if 0≤x13 then(if x13 < (x0.length:Int) then(if x13 < (x1.length:Int) then(if (!(((vz x0 x13).f0) == ((vz x1 x13).f0)) || (!(((vz x0 x13).f1) == ((vz x1 x13).f1)) || (!((((vz x0 x13).f2).toList) == (((vz x1 x13).f2).toList)) || (!((((vz x0 x13).f3).toList) == (((vz x1 x13).f3).toList))))))=true then(some false) else(qqj.l0 k x0 x1 x12 (wrap64 (x13 + 1)))) else(none)) else(none)) else(none)) else(some true)
def qqj.f (k:Nat) (l0:List (S34)) (l1:List (S34)):Option (Bool):=if (l0.length:Int)=(l1.length:Int) then(qqj.l0 k l0 l1 (l0.length:Int) 0) else(some false)
theorem qqj.calls (k:Nat) (A0:Option Addr) (c0:Nat) (l0:List (S34)) (A1:Option Addr) (c1:Nat) (l1:List (S34)) (r:Bool) (w:World) (hr0:Kd.C k34 w A0 l0.length l0) (hc0:l0.length≤c0) (hr1:Kd.C k34 w A1 l1.length l1) (hc1:l1.length≤c1) (h:qqj.f k l0 l1=some r) :
  Calls Try.prog 94 #[.slice A0 l0.length c0,.slice A1 l1.length c1] w fun e w'=>e=.returned (.bool r)∧Drawn0 w w':=by
 have hu34:=Try.underlying34
 have HR0:=U.mk hr0
 have HC0:=U.mk hc0
 clear hr0 hc0
 have HR1:=U.mk hr1
 have HC1:=U.mk hc1
 clear hr1 hc1
 unfold qqj.f at h
 have H:=h
 clear h
 by_cases c3:(l0.length:Int)=(l1.length:Int)
 ·rw[if_pos c3] at H
  have c3b0:((l0.length:Int) == (l1.length:Int))=true:=beq_iff_eq.mpr c3
  have c3b1:((l0.length:Int) != (l1.length:Int))=false:=bne_eq_false_iff_eq.mpr c3
  have c3b2:(l0.length == l1.length)=true:=by first|simpa using c3|(simp at c3 ⊢;omega)
  clear c3
  have H':=U.mk H
  clear H
  go_enter Try.func94,Try.ntmps94
  go_wp2
  repeat(go_quiet (fail);try go_wp2)
  go_loopg [13] k (fun kq v13 w'=>∃ (x13_1:Int),v13=.int .i64 x13_1∧U (qqj.l0 kq l0 l1 (l0.length:Int) x13_1=some r)∧U (kq≤k)∧Drawn0 w w')
  case atStart=>exact⟨(0),(by first|rfl|(simp;done)|(simp[*];done)),H',⟨Nat.le_refl _⟩,by repeat(first|exact Drawn0.refl _|apply Drawn0.step)⟩
  case round =>
   clear H'
   try clear c1
   try clear p2
   try clear c3
   try clear c3b0
   try clear c3b1
   try clear c3b2
   obtain⟨x13_1,rfl,HA,HK1,⟨m1,rfl⟩⟩:=hrel
   cases gk with
   | zero=>exact absurd HA.out (by simp[qqj.l0])
   | succ k1 =>
    have H:=HA.out
    clear HA
    simp only[qqj.l0] at H
    by_cases c4:x13_1 < (l0.length:Int)
    ·rw[if_pos c4] at H
     have c4b0:decide (x13_1 < (l0.length:Int))=true:=decide_eq_true c4
     clear c4
     by_cases c5 : 0≤x13_1
     ·rw[if_pos c5] at H
      have c5b0:decide (0≤x13_1)=true:=decide_eq_true c5
      clear c5
      by_cases c6:x13_1 < (l0.length:Int)
      ·rw[if_pos c6] at H
       have c6b0:decide (x13_1 < (l0.length:Int))=true:=decide_eq_true c6
       clear c6
       by_cases c7:x13_1 < (l1.length:Int)
       ·rw[if_pos c7] at H
        have c7b0:decide (x13_1 < (l1.length:Int))=true:=decide_eq_true c7
        clear c7
        by_cases c8:(!(((vz l0 x13_1).f0) == ((vz l1 x13_1).f0)) || (!(((vz l0 x13_1).f1) == ((vz l1 x13_1).f1)) || (!((((vz l0 x13_1).f2).toList) == (((vz l1 x13_1).f2).toList)) || (!((((vz l0 x13_1).f3).toList) == (((vz l1 x13_1).f3).toList))))))=true
        ·rw[if_pos c8] at H
         have c8b0:(!(((vz l0 x13_1).f0) == ((vz l1 x13_1).f0)) || (!(((vz l0 x13_1).f1) == ((vz l1 x13_1).f1)) || (!((((vz l0 x13_1).f2).toList) == (((vz l1 x13_1).f2).toList)) || (!((((vz l0 x13_1).f3).toList) == (((vz l1 x13_1).f3).toList))))))=true:=c8
         clear c8
         obtain rfl:=Option.some.inj H
         have p101 : 0≤(x13_1:Int):=of_decide_eq_true (by assumption)
         have q101:x13_1 < (l0.length:Int):=of_decide_eq_true (by assumption)
         obtain⟨ad101,e101,hx101_0,hx101_1,hx101_2,hx101_3⟩:=at_T34 HR0.out x13_1 p101 q101
         cases e101
         replace p101:=eq_true p101
         replace q101:=eq_true q101
         have p102 : 0≤(x13_1:Int):=of_decide_eq_true (by assumption)
         have q102:x13_1 < (l1.length:Int):=of_decide_eq_true (by assumption)
         obtain⟨ad102,e102,hx102_0,hx102_1,hx102_2,hx102_3⟩:=at_T34 HR1.out x13_1 p102 q102
         cases e102
         replace p102:=eq_true p102
         replace q102:=eq_true q102
         go_wp2
         repeat(go_quiet (fail);try go_wp2)
         go_ret
         exact⟨by first|rfl|(simp;done)|(simp[*];done),by repeat(first|exact Drawn0.refl _|apply Drawn0.step)⟩
        ·rw[if_neg c8] at H
         have c8b0:(!(((vz l0 x13_1).f0) == ((vz l1 x13_1).f0)) || (!(((vz l0 x13_1).f1) == ((vz l1 x13_1).f1)) || (!((((vz l0 x13_1).f2).toList) == (((vz l1 x13_1).f2).toList)) || (!((((vz l0 x13_1).f3).toList) == (((vz l1 x13_1).f3).toList))))))=false:=by simpa using c8
         clear c8
         have H':=U.mk H
         clear H
         have p101 : 0≤(x13_1:Int):=of_decide_eq_true (by assumption)
         have q101:x13_1 < (l0.length:Int):=of_decide_eq_true (by assumption)
         obtain⟨ad101,e101,hx101_0,hx101_1,hx101_2,hx101_3⟩:=at_T34 HR0.out x13_1 p101 q101
         cases e101
         replace p101:=eq_true p101
         replace q101:=eq_true q101
         have p102 : 0≤(x13_1:Int):=of_decide_eq_true (by assumption)
         have q102:x13_1 < (l1.length:Int):=of_decide_eq_true (by assumption)
         obtain⟨ad102,e102,hx102_0,hx102_1,hx102_2,hx102_3⟩:=at_T34 HR1.out x13_1 p102 q102
         cases e102
         replace p102:=eq_true p102
         replace q102:=eq_true q102
         go_wp2
         repeat(go_quiet (fail);try go_wp2)
         go_roundg k1
         case measure=>have:=HK1.out;omega
         case rel=>exact⟨(wrap64 (x13_1 + 1)),(by first|rfl|(simp;done)|(simp[*];done)),H',⟨by have:=HK1.out;omega⟩,by repeat(first|exact Drawn0.refl _|apply Drawn0.step)⟩
       ·rw[if_neg c7] at H
        exact absurd H (by simp)
      ·rw[if_neg c6] at H
       exact absurd H (by simp)
     ·rw[if_neg c5] at H
      exact absurd H (by simp)
    ·rw[if_neg c4] at H
     have c4b0:decide (x13_1 < (l0.length:Int))=false:=decide_eq_false c4
     clear c4
     obtain rfl:=Option.some.inj H
     go_wp2
     repeat(go_quiet (fail);try go_wp2)
     go_ret
     exact⟨by first|rfl|(simp;done)|(simp[*];done),by repeat(first|exact Drawn0.refl _|apply Drawn0.step)⟩
 ·rw[if_neg c3] at H
  have c3b0:((l0.length:Int) == (l1.length:Int))=false:=beq_eq_false_iff_ne.mpr c3
  have c3b1:((l0.length:Int) != (l1.length:Int))=true:=bne_iff_ne.mpr c3
  have c3b2:(l0.length == l1.length)=false:=by first|simpa using c3|(simp at c3 ⊢;omega)
  obtain rfl:=Option.some.inj H
  go_enter Try.func94,Try.ntmps94
  go_wp2
  repeat(go_quiet (fail);try go_wp2)
  go_ret
  exact⟨by first|rfl|(simp;done)|(simp[*];done),by repeat(first|exact Drawn0.refl _|apply Drawn0.step)⟩
end Go.Proofs.Ytccbjchlcelkgaa.Pr
namespace Go.Proofs.Ytccbjchlcelkgaa.Pr
open Go.RowKit Go.Proofs.YtccbjchlcelkgaaW.PrintWords Go.Proofs.YtccbjchlcelkgaaW.PrintLast Go.Proofs.YtccbjchlcelkgaaW.PrintMore
attribute [local go_sem] max2_int min2_int max_two min_two max_three min_three max_four min_four
set_option linter.unusedVariables false
set_option linter.unusedSimpArgs false
def qqk.l0:Nat→List ByteArray→List ByteArray→Int→Int→Option (Bool)
 | 0,_,_,_,_=>none
 | k + 1,x0,x1,x12,x13=>if x13 < x12 then(if 0≤x13 then(if x13 < (x0.length:Int) then(if x13 < (x1.length:Int) then(if (rdOf ByteArray.empty x0 x13).toList=(rdOf ByteArray.empty x1 x13).toList then(qqk.l0 k x0 x1 x12 (wrap64 (x13 + 1))) else(some false)) else(none)) else(none)) else(none)) else(some true)
def qqk.f (k:Nat) (l0:List ByteArray) (l1:List ByteArray):Option (Bool):=if (l0.length:Int)=(l1.length:Int) then(qqk.l0 k l0 l1 (l0.length:Int) 0) else(some false)
theorem qqk.calls (k:Nat) (A0:Option Addr) (c0:Nat) (l0:List ByteArray) (A1:Option Addr) (c1:Nat) (l1:List ByteArray) (r:Bool) (w:World) (hr0:Kd.C Kd.string w A0 l0.length l0) (hc0:l0.length≤c0) (hr1:Kd.C Kd.string w A1 l1.length l1) (hc1:l1.length≤c1) (h:qqk.f k l0 l1=some r) :
  Calls Try.prog 95 #[.slice A0 l0.length c0,.slice A1 l1.length c1] w fun e w'=>e=.returned (.bool r)∧Drawn0 w w':=by
 have HR0:=U.mk hr0
 have HC0:=U.mk hc0
 clear hr0 hc0
 have HR1:=U.mk hr1
 have HC1:=U.mk hc1
 clear hr1 hc1
 unfold qqk.f at h
 have H:=h
 clear h
 by_cases c3:(l0.length:Int)=(l1.length:Int)
 ·rw[if_pos c3] at H
  have c3b0:((l0.length:Int) == (l1.length:Int))=true:=beq_iff_eq.mpr c3
  have c3b1:((l0.length:Int) != (l1.length:Int))=false:=bne_eq_false_iff_eq.mpr c3
  have c3b2:(l0.length == l1.length)=true:=by first|simpa using c3|(simp at c3 ⊢;omega)
  clear c3
  have H':=U.mk H
  clear H
  go_enter Try.func95,Try.ntmps95
  go_wp2
  repeat(go_quiet (fail);try go_wp2)
  go_loopg [13] k (fun kq v13 w'=>∃ (x13_1:Int),v13=.int .i64 x13_1∧U (qqk.l0 kq l0 l1 (l0.length:Int) x13_1=some r)∧U (kq≤k)∧Drawn0 w w')
  case atStart=>exact⟨(0),(by first|rfl|(simp;done)|(simp[*];done)),H',⟨Nat.le_refl _⟩,by repeat(first|exact Drawn0.refl _|apply Drawn0.step)⟩
  case round =>
   clear H'
   try clear c1
   try clear p2
   try clear c3
   try clear c3b0
   try clear c3b1
   try clear c3b2
   obtain⟨x13_1,rfl,HA,HK1,⟨m1,rfl⟩⟩:=hrel
   cases gk with
   | zero=>exact absurd HA.out (by simp[qqk.l0])
   | succ k1 =>
    have H:=HA.out
    clear HA
    simp only[qqk.l0] at H
    by_cases c4:x13_1 < (l0.length:Int)
    ·rw[if_pos c4] at H
     have c4b0:decide (x13_1 < (l0.length:Int))=true:=decide_eq_true c4
     clear c4
     by_cases c5 : 0≤x13_1
     ·rw[if_pos c5] at H
      have c5b0:decide (0≤x13_1)=true:=decide_eq_true c5
      clear c5
      by_cases c6:x13_1 < (l0.length:Int)
      ·rw[if_pos c6] at H
       have c6b0:decide (x13_1 < (l0.length:Int))=true:=decide_eq_true c6
       clear c6
       by_cases c7:x13_1 < (l1.length:Int)
       ·rw[if_pos c7] at H
        have c7b0:decide (x13_1 < (l1.length:Int))=true:=decide_eq_true c7
        clear c7
        by_cases c8:(rdOf ByteArray.empty l0 x13_1).toList=(rdOf ByteArray.empty l1 x13_1).toList
        ·rw[if_pos c8] at H
         have c8b0:((rdOf ByteArray.empty l0 x13_1).toList == (rdOf ByteArray.empty l1 x13_1).toList)=true:=beq_iff_eq.mpr c8
         have c8b1:((rdOf ByteArray.empty l0 x13_1).toList != (rdOf ByteArray.empty l1 x13_1).toList)=false:=bne_eq_false_iff_eq.mpr c8
         clear c8
         have H':=U.mk H
         clear H
         have p101 : 0≤(x13_1:Int):=of_decide_eq_true (by assumption)
         have q101:x13_1 < (l0.length:Int):=of_decide_eq_true (by assumption)
         obtain⟨ad101,e101,hx101_0⟩:=Kd.at_string HR0.out x13_1 p101 q101
         cases e101
         replace p101:=eq_true p101
         replace q101:=eq_true q101
         have p102 : 0≤(x13_1:Int):=of_decide_eq_true (by assumption)
         have q102:x13_1 < (l1.length:Int):=of_decide_eq_true (by assumption)
         obtain⟨ad102,e102,hx102_0⟩:=Kd.at_string HR1.out x13_1 p102 q102
         cases e102
         replace p102:=eq_true p102
         replace q102:=eq_true q102
         go_wp2
         repeat(go_quiet (fail);try go_wp2)
         go_roundg k1
         case measure=>have:=HK1.out;omega
         case rel=>exact⟨(wrap64 (x13_1 + 1)),(by first|rfl|(simp;done)|(simp[*];done)),H',⟨by have:=HK1.out;omega⟩,by repeat(first|exact Drawn0.refl _|apply Drawn0.step)⟩
        ·rw[if_neg c8] at H
         have c8b0:((rdOf ByteArray.empty l0 x13_1).toList == (rdOf ByteArray.empty l1 x13_1).toList)=false:=beq_eq_false_iff_ne.mpr c8
         have c8b1:((rdOf ByteArray.empty l0 x13_1).toList != (rdOf ByteArray.empty l1 x13_1).toList)=true:=bne_iff_ne.mpr c8
         obtain rfl:=Option.some.inj H
         have p101 : 0≤(x13_1:Int):=of_decide_eq_true (by assumption)
         have q101:x13_1 < (l0.length:Int):=of_decide_eq_true (by assumption)
         obtain⟨ad101,e101,hx101_0⟩:=Kd.at_string HR0.out x13_1 p101 q101
         cases e101
         replace p101:=eq_true p101
         replace q101:=eq_true q101
         have p102 : 0≤(x13_1:Int):=of_decide_eq_true (by assumption)
         have q102:x13_1 < (l1.length:Int):=of_decide_eq_true (by assumption)
         obtain⟨ad102,e102,hx102_0⟩:=Kd.at_string HR1.out x13_1 p102 q102
         cases e102
         replace p102:=eq_true p102
         replace q102:=eq_true q102
         go_wp2
         repeat(go_quiet (fail);try go_wp2)
         go_ret
         exact⟨by first|rfl|(simp;done)|(simp[*];done),by repeat(first|exact Drawn0.refl _|apply Drawn0.step)⟩
       ·rw[if_neg c7] at H
        exact absurd H (by simp)
      ·rw[if_neg c6] at H
       exact absurd H (by simp)
     ·rw[if_neg c5] at H
      exact absurd H (by simp)
    ·rw[if_neg c4] at H
     have c4b0:decide (x13_1 < (l0.length:Int))=false:=decide_eq_false c4
     clear c4
     obtain rfl:=Option.some.inj H
     go_wp2
     repeat(go_quiet (fail);try go_wp2)
     go_ret
     exact⟨by first|rfl|(simp;done)|(simp[*];done),by repeat(first|exact Drawn0.refl _|apply Drawn0.step)⟩
 ·rw[if_neg c3] at H
  have c3b0:((l0.length:Int) == (l1.length:Int))=false:=beq_eq_false_iff_ne.mpr c3
  have c3b1:((l0.length:Int) != (l1.length:Int))=true:=bne_iff_ne.mpr c3
  have c3b2:(l0.length == l1.length)=false:=by first|simpa using c3|(simp at c3 ⊢;omega)
  obtain rfl:=Option.some.inj H
  go_enter Try.func95,Try.ntmps95
  go_wp2
  repeat(go_quiet (fail);try go_wp2)
  go_ret
  exact⟨by first|rfl|(simp;done)|(simp[*];done),by repeat(first|exact Drawn0.refl _|apply Drawn0.step)⟩
end Go.Proofs.Ytccbjchlcelkgaa.Pr
