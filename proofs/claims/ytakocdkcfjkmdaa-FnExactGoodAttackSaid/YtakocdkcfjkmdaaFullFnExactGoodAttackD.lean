/- Printed texts, walks and plain facts that the law FnExactGoodAttack leans on, joined. -/
import Derived.Test.YtakocdkcfjkmdaaFullFnExactGoodAttackC
import Derived.Deep.QuietTactic
import Derived.BigQuiet
import Derived.Laws.Cover1
import Derived.Shelf.Abstract
set_option maxHeartbeats 8000000
set_option maxRecDepth 100000
open List renaming map_toArray → jq0, map_cons → jq1, map_nil → jq2, length_drop → jq3, length_take → jq4, setIfInBounds_toArray → jq5, set_cons_zero → jq6, set_cons_succ → jq7
open Option renaming bind_eq_some_iff → jq8
open Bool renaming eq_false_iff → jq9, true → Z, false → Y
namespace Go.Proofs.Ytakocdkcfjkmdaa.Pr
open Go.RowKit Go.Proofs.YtakocdkcfjkmdaaW.PrintWords Go.Proofs.YtakocdkcfjkmdaaW.PrintLast Go.Proofs.YtakocdkcfjkmdaaW.PrintMore
attribute [local go_sem] max2_int min2_int max_two min_two max_three min_three max_four min_four
set_option linter.unusedVariables false
set_option linter.unusedSimpArgs false
mutual
def wk.j0:Nat→Bool→List (S77)→List Int→Int→Int→Option (Bool)
 | 0,_,_,_,_,_=>none
 | k + 1,x34,x102000,x102001,x102002,x102003=>if x34=true then(some false) else(wk.l0 k x102000 (x102000.length:Int) 0 x102000 x102001 x102002 x102003)
def wk.l0:Nat→List (S77)→Int→Int→List (S77)→List Int→Int→Int→Option (Bool)
 | 0,_,_,_,_,_,_,_=>none
 | k + 1,x36,x37,x38,x102000,x102001,x102002,x102003=>if x38 < x37 then(if 0≤x38 then(if x38 < (x36.length:Int) then((xw.f k ((kw x36 x38).f0)).bind fun t104=>(if t104=true then(if x38 > 0 then(if 0≤(wrap64 (x38 - 1)) then(if (wrap64 (x38 - 1)) < (x102000.length:Int) then(if ((Op.bytesLess (((kw x102000 (wrap64 (x38 - 1))).f0).toList) (((kw x36 x38).f0).toList))=true) then(if (((kw x36 x38).f1).length:Int)=0 then(if (((kw x36 x38).f2).length:Int) > 5 then(wk.j2 k x36 x37 x38 true x102000 x102001 x102002 x102003 ((kw x36 x38).f0) ((kw x36 x38).f1) ((kw x36 x38).f2) ((kw x36 x38).f3) ((kw x36 x38).f4)) else((xv.f k ((kw x36 x38).f3)).bind fun t106=>(if t106=true then(wk.j2 k x36 x37 x38 (decide ((((kw x36 x38).f4).length:Int) > 4)) x102000 x102001 x102002 x102003 ((kw x36 x38).f0) ((kw x36 x38).f1) ((kw x36 x38).f2) ((kw x36 x38).f3) ((kw x36 x38).f4)) else(wk.j2 k x36 x37 x38 true x102000 x102001 x102002 x102003 ((kw x36 x38).f0) ((kw x36 x38).f1) ((kw x36 x38).f2) ((kw x36 x38).f3) ((kw x36 x38).f4))))) else(if (((kw x36 x38).f1).length:Int)=16 then(if (((kw x36 x38).f2).length:Int) > 5 then(wk.j2 k x36 x37 x38 true x102000 x102001 x102002 x102003 ((kw x36 x38).f0) ((kw x36 x38).f1) ((kw x36 x38).f2) ((kw x36 x38).f3) ((kw x36 x38).f4)) else((xv.f k ((kw x36 x38).f3)).bind fun t107=>(if t107=true then(wk.j2 k x36 x37 x38 (decide ((((kw x36 x38).f4).length:Int) > 4)) x102000 x102001 x102002 x102003 ((kw x36 x38).f0) ((kw x36 x38).f1) ((kw x36 x38).f2) ((kw x36 x38).f3) ((kw x36 x38).f4)) else(wk.j2 k x36 x37 x38 true x102000 x102001 x102002 x102003 ((kw x36 x38).f0) ((kw x36 x38).f1) ((kw x36 x38).f2) ((kw x36 x38).f3) ((kw x36 x38).f4))))) else(wk.j2 k x36 x37 x38 true x102000 x102001 x102002 x102003 ((kw x36 x38).f0) ((kw x36 x38).f1) ((kw x36 x38).f2) ((kw x36 x38).f3) ((kw x36 x38).f4)))) else(wk.j2 k x36 x37 x38 true x102000 x102001 x102002 x102003 ((kw x36 x38).f0) ((kw x36 x38).f1) ((kw x36 x38).f2) ((kw x36 x38).f3) ((kw x36 x38).f4))) else(none)) else(none)) else(if (((kw x36 x38).f1).length:Int)=0 then(if (((kw x36 x38).f2).length:Int) > 5 then(wk.j2 k x36 x37 x38 true x102000 x102001 x102002 x102003 ((kw x36 x38).f0) ((kw x36 x38).f1) ((kw x36 x38).f2) ((kw x36 x38).f3) ((kw x36 x38).f4)) else((xv.f k ((kw x36 x38).f3)).bind fun t108=>(if t108=true then(wk.j2 k x36 x37 x38 (decide ((((kw x36 x38).f4).length:Int) > 4)) x102000 x102001 x102002 x102003 ((kw x36 x38).f0) ((kw x36 x38).f1) ((kw x36 x38).f2) ((kw x36 x38).f3) ((kw x36 x38).f4)) else(wk.j2 k x36 x37 x38 true x102000 x102001 x102002 x102003 ((kw x36 x38).f0) ((kw x36 x38).f1) ((kw x36 x38).f2) ((kw x36 x38).f3) ((kw x36 x38).f4))))) else(if (((kw x36 x38).f1).length:Int)=16 then(if (((kw x36 x38).f2).length:Int) > 5 then(wk.j2 k x36 x37 x38 true x102000 x102001 x102002 x102003 ((kw x36 x38).f0) ((kw x36 x38).f1) ((kw x36 x38).f2) ((kw x36 x38).f3) ((kw x36 x38).f4)) else((xv.f k ((kw x36 x38).f3)).bind fun t109=>(if t109=true then(wk.j2 k x36 x37 x38 (decide ((((kw x36 x38).f4).length:Int) > 4)) x102000 x102001 x102002 x102003 ((kw x36 x38).f0) ((kw x36 x38).f1) ((kw x36 x38).f2) ((kw x36 x38).f3) ((kw x36 x38).f4)) else(wk.j2 k x36 x37 x38 true x102000 x102001 x102002 x102003 ((kw x36 x38).f0) ((kw x36 x38).f1) ((kw x36 x38).f2) ((kw x36 x38).f3) ((kw x36 x38).f4))))) else(wk.j2 k x36 x37 x38 true x102000 x102001 x102002 x102003 ((kw x36 x38).f0) ((kw x36 x38).f1) ((kw x36 x38).f2) ((kw x36 x38).f3) ((kw x36 x38).f4))))) else(wk.j2 k x36 x37 x38 true x102000 x102001 x102002 x102003 ((kw x36 x38).f0) ((kw x36 x38).f1) ((kw x36 x38).f2) ((kw x36 x38).f3) ((kw x36 x38).f4)))) else(none)) else(none)) else(some true)
def wk.j2:Nat→List (S77)→Int→Int→Bool→List (S77)→List Int→Int→Int→ByteArray→List Int→List ByteArray→List ByteArray→List Int→Option (Bool)
 | 0,_,_,_,_,_,_,_,_,_,_,_,_,_=>none
 | k + 1,x36,x37,x38,x92,x102000,x102001,x102002,x102003,x104000,x104001,x104002,x104003,x104004=>if x92=true then(some false) else((has_impl_GoodServer_1.f k x104002).bind fun t110=>(if t110=true then(some false) else((has_impl_GoodServer_2.f k x104004).bind fun t111=>(if t111=true then(some false) else(wk.l0 k x36 x37 (wrap64 (x38 + 1)) x102000 x102001 x102002 x102003)))))
end
def wk.f (k:Nat) (l0_0:List (S77)) (l0_1:List Int) (a0_2:Int) (a0_3:Int):Option (Bool):=if (l0_0.length:Int) > 20 then(wk.j0 k true l0_0 l0_1 a0_2 a0_3) else(if (l0_1.length:Int) > 64 then(wk.j0 k true l0_0 l0_1 a0_2 a0_3) else(if a0_2 < 1 then(wk.j0 k true l0_0 l0_1 a0_2 a0_3) else(if a0_2 > 1000000 then(wk.j0 k true l0_0 l0_1 a0_2 a0_3) else(if a0_3 < 1 then(wk.j0 k true l0_0 l0_1 a0_2 a0_3) else(wk.j0 k (decide (a0_3 > 1000000)) l0_0 l0_1 a0_2 a0_3)))))
theorem wk.calls (k:Nat) (A0_0:Option Addr) (c0_0:Nat) (l0_0:List (S77)) (A0_1:Option Addr) (c0_1:Nat) (l0_1:List Int) (a0_2:Int) (a0_3:Int) (r:Bool) (w:World) (hr0_0:Kd.C k77 w A0_0 l0_0.length l0_0) (hc0_0:l0_0.length≤c0_0) (hr0_1:Kd.C (Kd.int .u8) w A0_1 l0_1.length l0_1) (hc0_1:l0_1.length≤c0_1) (h:wk.f k l0_0 l0_1 a0_2 a0_3=some r) :
  Calls Try.prog 21 #[.agg #[.slice A0_0 l0_0.length c0_0,.slice A0_1 l0_1.length c0_1,.int .i64 a0_2,.int .i64 a0_3]] w fun e w'=>e=.returned (.bool r)∧Below w.heap.size w w':=by
 have hu45:=Try.underlying45
 have hu77:=Try.underlying77
 have HR0_0:=X.mk hr0_0
 have HC0_0:=X.mk hc0_0
 clear hr0_0 hc0_0
 have HR0_1:=X.mk hr0_1
 have HC0_1:=X.mk hc0_1
 clear hr0_1 hc0_1
 have HB:=X.mk (Below.refl w.heap.size w)
 unfold wk.f at h
 have H:=h
 clear h
 have HC2:=X.mk H
 clear H
 go_enter Try.func21,Try.ntmps21
 go_upto_region 1 with (first|((with_reducible refine gate_dst (N:=1) rfl ?_);(try (refine gate_guard (by rfl) ?_;dsimp only));refine box_event ?hg (N:=1) ?hd (cs:=#[.slice A0_0 l0_0.length c0_0,.slice A0_1 l0_1.length c0_1,.int .i64 a0_2,.int .i64 a0_3]) (t:=45) ?hr ?_;(case hd=>rfl);(case hg=>rfl);(case hr=>first|(go_simp;done)|(go_simp;rfl));intro gb101 hg w3 hbox hb;have BK101:=X.mk (hbox);have GW101:=X.mk ((by rw[hg];exact(qx (by solve_by_elim only[HB.out,O,U,L])):w.heap.size≤gb101));have GE101:=X.mk ((by rw[hg];exact(qx (by solve_by_elim only[HB.out,O,U,L])):w.heap.size≤gb101));replace HB:=X.mk (qw (by solve_by_elim only[HB.out,O,U,L]) hb);clear hb hbox hg))
 (try simp only[Act.put,jq5,jq6,jq7])
 go_cut [34] (fun v34 wc=>∃ (kq:Nat) (x34_1:Bool),v34=.bool x34_1∧X (wk.j0 kq x34_1 l0_0 l0_1 a0_2 a0_3=some r)∧X (kq≤k)∧X (wc.heap[gb101]? = some (.cells #[(.slice A0_0 l0_0.length c0_0),(.slice A0_1 l0_1.length c0_1),.int .i64 a0_2,.int .i64 a0_3] 45 (0,0)))∧X (Below w.heap.size w wc))
 case first =>
  have H:=HC2.out
  clear HC2
  by_cases c4:(l0_0.length:Int) > 20
  ·rw[if_pos c4] at H
   have c4b0:decide (20 < (l0_0.length:Int))=true:=decide_eq_true c4
   have c4b1:decide (20 < l0_0.length)=true:=decide_eq_true (by omega)
   clear c4
   (first|rw[c4b0]|(simp only[i64_w,i32_w];rw[c4b0])|skip)
   have H':=X.mk H
   clear H
   have hcz5_0:w3.cell? ⟨gb101,0,none⟩ = some (.slice A0_0 l0_0.length c0_0):=(I BK101.out 0).trans rfl
   have hcz5_1:w3.cell? ⟨gb101,1,none⟩ = some (.slice A0_1 l0_1.length c0_1):=(I BK101.out 1).trans rfl
   have hcz5_2:w3.cell? ⟨gb101,2,none⟩ = some (.int .i64 a0_2):=(I BK101.out 2).trans rfl
   have hcz5_3:w3.cell? ⟨gb101,3,none⟩ = some (.int .i64 a0_3):=(I BK101.out 3).trans rfl
   have hfz5_0:=J BK101.out 0
   have hfz5_1:=J BK101.out 1
   have hfz5_2:=J BK101.out 2
   have hfz5_3:=J BK101.out 3
   go_wp2
   go_meet
   case rel=>exact⟨_,(true),(by first|rfl|(simp;done)|(simp[*];done)),H',⟨by first|omega|exact Nat.le_refl _⟩,⟨by(with_reducible repeat(first|refine qj ?_ _|refine qk ?_|refine qz ?_ _));exact BK101.out⟩,⟨by repeat(first|(with_reducible first|exact HB.out|apply O|apply U|apply L|refine qq ?_ GE101.out)|exact HB.out)⟩⟩
  ·rw[if_neg c4] at H
   have c4b0:decide (20 < (l0_0.length:Int))=false:=decide_eq_false c4
   have c4b1:decide (20 < l0_0.length)=false:=decide_eq_false (by omega)
   clear c4
   (first|rw[c4b0]|(simp only[i64_w,i32_w];rw[c4b0])|skip)
   by_cases c6:(l0_1.length:Int) > 64
   ·rw[if_pos c6] at H
    have c6b0:decide (64 < (l0_1.length:Int))=true:=decide_eq_true c6
    have c6b1:decide (64 < l0_1.length)=true:=decide_eq_true (by omega)
    clear c6
    have H':=X.mk H
    clear H
    have hcz7_0:w3.cell? ⟨gb101,0,none⟩ = some (.slice A0_0 l0_0.length c0_0):=(I BK101.out 0).trans rfl
    have hcz7_1:w3.cell? ⟨gb101,1,none⟩ = some (.slice A0_1 l0_1.length c0_1):=(I BK101.out 1).trans rfl
    have hcz7_2:w3.cell? ⟨gb101,2,none⟩ = some (.int .i64 a0_2):=(I BK101.out 2).trans rfl
    have hcz7_3:w3.cell? ⟨gb101,3,none⟩ = some (.int .i64 a0_3):=(I BK101.out 3).trans rfl
    have hfz7_0:=J BK101.out 0
    have hfz7_1:=J BK101.out 1
    have hfz7_2:=J BK101.out 2
    have hfz7_3:=J BK101.out 3
    go_wp2
    go_meet
    case rel=>exact⟨_,(true),(by first|rfl|(simp;done)|(simp[*];done)),H',⟨by first|omega|exact Nat.le_refl _⟩,⟨by(with_reducible repeat(first|refine qj ?_ _|refine qk ?_|refine qz ?_ _));exact BK101.out⟩,⟨by repeat(first|(with_reducible first|exact HB.out|apply O|apply U|apply L|refine qq ?_ GE101.out)|exact HB.out)⟩⟩
   ·rw[if_neg c6] at H
    have c6b0:decide (64 < (l0_1.length:Int))=false:=decide_eq_false c6
    have c6b1:decide (64 < l0_1.length)=false:=decide_eq_false (by omega)
    clear c6
    by_cases c8:a0_2 < 1
    ·rw[if_pos c8] at H
     have c8b0:decide (a0_2 < 1)=true:=decide_eq_true c8
     clear c8
     have H':=X.mk H
     clear H
     have hcz9_0:w3.cell? ⟨gb101,0,none⟩ = some (.slice A0_0 l0_0.length c0_0):=(I BK101.out 0).trans rfl
     have hcz9_1:w3.cell? ⟨gb101,1,none⟩ = some (.slice A0_1 l0_1.length c0_1):=(I BK101.out 1).trans rfl
     have hcz9_2:w3.cell? ⟨gb101,2,none⟩ = some (.int .i64 a0_2):=(I BK101.out 2).trans rfl
     have hcz9_3:w3.cell? ⟨gb101,3,none⟩ = some (.int .i64 a0_3):=(I BK101.out 3).trans rfl
     have hfz9_0:=J BK101.out 0
     have hfz9_1:=J BK101.out 1
     have hfz9_2:=J BK101.out 2
     have hfz9_3:=J BK101.out 3
     go_wp2
     go_meet
     case rel=>exact⟨_,(true),(by first|rfl|(simp;done)|(simp[*];done)),H',⟨by first|omega|exact Nat.le_refl _⟩,⟨by(with_reducible repeat(first|refine qj ?_ _|refine qk ?_|refine qz ?_ _));exact BK101.out⟩,⟨by repeat(first|(with_reducible first|exact HB.out|apply O|apply U|apply L|refine qq ?_ GE101.out)|exact HB.out)⟩⟩
    ·rw[if_neg c8] at H
     have c8b0:decide (a0_2 < 1)=false:=decide_eq_false c8
     clear c8
     by_cases c10:a0_2 > 1000000
     ·rw[if_pos c10] at H
      have c10b0:decide (1000000 < a0_2)=true:=decide_eq_true c10
      clear c10
      have H':=X.mk H
      clear H
      have hcz11_0:w3.cell? ⟨gb101,0,none⟩ = some (.slice A0_0 l0_0.length c0_0):=(I BK101.out 0).trans rfl
      have hcz11_1:w3.cell? ⟨gb101,1,none⟩ = some (.slice A0_1 l0_1.length c0_1):=(I BK101.out 1).trans rfl
      have hcz11_2:w3.cell? ⟨gb101,2,none⟩ = some (.int .i64 a0_2):=(I BK101.out 2).trans rfl
      have hcz11_3:w3.cell? ⟨gb101,3,none⟩ = some (.int .i64 a0_3):=(I BK101.out 3).trans rfl
      have hfz11_0:=J BK101.out 0
      have hfz11_1:=J BK101.out 1
      have hfz11_2:=J BK101.out 2
      have hfz11_3:=J BK101.out 3
      go_wp2
      go_meet
      case rel=>exact⟨_,(true),(by first|rfl|(simp;done)|(simp[*];done)),H',⟨by first|omega|exact Nat.le_refl _⟩,⟨by(with_reducible repeat(first|refine qj ?_ _|refine qk ?_|refine qz ?_ _));exact BK101.out⟩,⟨by repeat(first|(with_reducible first|exact HB.out|apply O|apply U|apply L|refine qq ?_ GE101.out)|exact HB.out)⟩⟩
     ·rw[if_neg c10] at H
      have c10b0:decide (1000000 < a0_2)=false:=decide_eq_false c10
      clear c10
      by_cases c12:a0_3 < 1
      ·rw[if_pos c12] at H
       have c12b0:decide (a0_3 < 1)=true:=decide_eq_true c12
       clear c12
       have H':=X.mk H
       clear H
       have hcz13_0:w3.cell? ⟨gb101,0,none⟩ = some (.slice A0_0 l0_0.length c0_0):=(I BK101.out 0).trans rfl
       have hcz13_1:w3.cell? ⟨gb101,1,none⟩ = some (.slice A0_1 l0_1.length c0_1):=(I BK101.out 1).trans rfl
       have hcz13_2:w3.cell? ⟨gb101,2,none⟩ = some (.int .i64 a0_2):=(I BK101.out 2).trans rfl
       have hcz13_3:w3.cell? ⟨gb101,3,none⟩ = some (.int .i64 a0_3):=(I BK101.out 3).trans rfl
       have hfz13_0:=J BK101.out 0
       have hfz13_1:=J BK101.out 1
       have hfz13_2:=J BK101.out 2
       have hfz13_3:=J BK101.out 3
       go_wp2
       go_meet
       case rel=>exact⟨_,(true),(by first|rfl|(simp;done)|(simp[*];done)),H',⟨by first|omega|exact Nat.le_refl _⟩,⟨by(with_reducible repeat(first|refine qj ?_ _|refine qk ?_|refine qz ?_ _));exact BK101.out⟩,⟨by repeat(first|(with_reducible first|exact HB.out|apply O|apply U|apply L|refine qq ?_ GE101.out)|exact HB.out)⟩⟩
      ·rw[if_neg c12] at H
       have c12b0:decide (a0_3 < 1)=false:=decide_eq_false c12
       clear c12
       have H':=X.mk H
       clear H
       have hcz14_0:w3.cell? ⟨gb101,0,none⟩ = some (.slice A0_0 l0_0.length c0_0):=(I BK101.out 0).trans rfl
       have hcz14_1:w3.cell? ⟨gb101,1,none⟩ = some (.slice A0_1 l0_1.length c0_1):=(I BK101.out 1).trans rfl
       have hcz14_2:w3.cell? ⟨gb101,2,none⟩ = some (.int .i64 a0_2):=(I BK101.out 2).trans rfl
       have hcz14_3:w3.cell? ⟨gb101,3,none⟩ = some (.int .i64 a0_3):=(I BK101.out 3).trans rfl
       have hfz14_0:=J BK101.out 0
       have hfz14_1:=J BK101.out 1
       have hfz14_2:=J BK101.out 2
       have hfz14_3:=J BK101.out 3
       go_wp2
       go_meet
       case rel=>exact⟨_,(decide (a0_3 > 1000000)),(by first|rfl|(simp;done)|(simp[*];done)),H',⟨by first|omega|exact Nat.le_refl _⟩,⟨by(with_reducible repeat(first|refine qj ?_ _|refine qk ?_|refine qz ?_ _));exact BK101.out⟩,⟨by repeat(first|(with_reducible first|exact HB.out|apply O|apply U|apply L|refine qq ?_ GE101.out)|exact HB.out)⟩⟩
 case rest =>
  clear HC2
  try clear c1
  try clear c2
  try clear p2
  try clear c4
  try clear c4b0
  try clear c4b1
  try clear c6
  try clear c6b0
  try clear c6b1
  try clear c8
  try clear c8b0
  try clear c10
  try clear c10b0
  try clear c12
  try clear c12b0
  try clear hcz11_0
  try clear hcz11_1
  try clear hcz11_2
  try clear hcz11_3
  try clear hcz13_0
  try clear hcz13_1
  try clear hcz13_2
  try clear hcz13_3
  try clear hcz14_0
  try clear hcz14_1
  try clear hcz14_2
  try clear hcz14_3
  try clear hcz5_0
  try clear hcz5_1
  try clear hcz5_2
  try clear hcz5_3
  try clear hcz7_0
  try clear hcz7_1
  try clear hcz7_2
  try clear hcz7_3
  try clear hcz9_0
  try clear hcz9_1
  try clear hcz9_2
  try clear hcz9_3
  try clear hfz11_0
  try clear hfz11_1
  try clear hfz11_2
  try clear hfz11_3
  try clear hfz13_0
  try clear hfz13_1
  try clear hfz13_2
  try clear hfz13_3
  try clear hfz14_0
  try clear hfz14_1
  try clear hfz14_2
  try clear hfz14_3
  try clear hfz5_0
  try clear hfz5_1
  try clear hfz5_2
  try clear hfz5_3
  try clear hfz7_0
  try clear hfz7_1
  try clear hfz7_2
  try clear hfz7_3
  try clear hfz9_0
  try clear hfz9_1
  try clear hfz9_2
  try clear hfz9_3
  obtain⟨kq,x34_1,rfl,HA,HJ1,BK101,HB⟩:=hcut
  cases kq with
  | zero=>exact absurd HA.out (by simp[wk.j0])
  | succ kj1 =>
   have H:=HA.out
   clear HA
   simp only[wk.j0] at H
   by_cases c15:x34_1=true
   ·subst c15
    have H1:(some false)=some r:=by rw[if_pos rfl] at H;exact H
    clear H
    have H:=H1
    clear H1
    obtain rfl:=Option.some.inj H
    go_wp2
    go_ret
    exact⟨by first|rfl|(simp[*,zv,zk] <;> rfl),by repeat(first|(with_reducible first|exact HB.out|apply O|apply U|apply L|refine qq ?_ GE101.out)|exact HB.out)⟩
   ·replace c15:=jq9.mpr c15
    subst c15
    have H1:(wk.l0 kj1 l0_0 (l0_0.length:Int) 0 l0_0 l0_1 a0_2 a0_3)=some r:=by rw[if_neg (show ¬ (false=true) by decide)] at H;exact H
    clear H
    have H:=H1
    clear H1
    have H':=X.mk H
    clear H
    have hcz16_0:wc.cell? ⟨gb101,0,none⟩ = some (.slice A0_0 l0_0.length c0_0):=(I BK101.out 0).trans rfl
    have hcz16_1:wc.cell? ⟨gb101,1,none⟩ = some (.slice A0_1 l0_1.length c0_1):=(I BK101.out 1).trans rfl
    have hcz16_2:wc.cell? ⟨gb101,2,none⟩ = some (.int .i64 a0_2):=(I BK101.out 2).trans rfl
    have hcz16_3:wc.cell? ⟨gb101,3,none⟩ = some (.int .i64 a0_3):=(I BK101.out 3).trans rfl
    have hfz16_0:=J BK101.out 0
    have hfz16_1:=J BK101.out 1
    have hfz16_2:=J BK101.out 2
    have hfz16_3:=J BK101.out 3
    go_wp2
    go_loopg [38] kj1 (fun kq v38 w'=>∃ (x38_2:Int),v38=.int .i64 x38_2∧X (wk.l0 kq l0_0 (l0_0.length:Int) x38_2 l0_0 l0_1 a0_2 a0_3=some r)∧X (kq≤kj1)∧X (w'.heap[gb101]? = some (.cells #[(.slice A0_0 l0_0.length c0_0),(.slice A0_1 l0_1.length c0_1),.int .i64 a0_2,.int .i64 a0_3] 45 (0,0)))∧X (Below w.heap.size w w'))
    case atStart=>exact⟨(0),(by first|rfl|(simp;done)|(simp[*];done)),H',⟨Nat.le_refl _⟩,⟨by(with_reducible repeat(first|refine qj ?_ _|refine qk ?_|refine qz ?_ _));exact BK101.out⟩,⟨by repeat(first|(with_reducible first|exact HB.out|apply O|apply U|apply L|refine qq ?_ GE101.out)|exact HB.out)⟩⟩
    case round =>
     clear H'
     try clear c1
     try clear c2
     try clear p2
     try clear c4
     try clear c4b0
     try clear c4b1
     try clear c6
     try clear c6b0
     try clear c6b1
     try clear c8
     try clear c8b0
     try clear c10
     try clear c10b0
     try clear c12
     try clear c12b0
     try clear c15
     try clear hcz11_0
     try clear hcz11_1
     try clear hcz11_2
     try clear hcz11_3
     try clear hcz13_0
     try clear hcz13_1
     try clear hcz13_2
     try clear hcz13_3
     try clear hcz14_0
     try clear hcz14_1
     try clear hcz14_2
     try clear hcz14_3
     try clear hcz16_0
     try clear hcz16_1
     try clear hcz16_2
     try clear hcz16_3
     try clear hcz5_0
     try clear hcz5_1
     try clear hcz5_2
     try clear hcz5_3
     try clear hcz7_0
     try clear hcz7_1
     try clear hcz7_2
     try clear hcz7_3
     try clear hcz9_0
     try clear hcz9_1
     try clear hcz9_2
     try clear hcz9_3
     try clear hfz11_0
     try clear hfz11_1
     try clear hfz11_2
     try clear hfz11_3
     try clear hfz13_0
     try clear hfz13_1
     try clear hfz13_2
     try clear hfz13_3
     try clear hfz14_0
     try clear hfz14_1
     try clear hfz14_2
     try clear hfz14_3
     try clear hfz16_0
     try clear hfz16_1
     try clear hfz16_2
     try clear hfz16_3
     try clear hfz5_0
     try clear hfz5_1
     try clear hfz5_2
     try clear hfz5_3
     try clear hfz7_0
     try clear hfz7_1
     try clear hfz7_2
     try clear hfz7_3
     try clear hfz9_0
     try clear hfz9_1
     try clear hfz9_2
     try clear hfz9_3
     try clear p2
     obtain⟨x38_2,rfl,HA,HK2,BK101,HB⟩:=hrel
     cases gk with
     | zero=>exact absurd HA.out (by simp[wk.l0])
     | succ k2 =>
      have H:=HA.out
      clear HA
      simp only[wk.l0] at H
      by_cases c17:x38_2 < (l0_0.length:Int)
      ·rw[if_pos c17] at H
       have c17b0:decide (x38_2 < (l0_0.length:Int))=true:=decide_eq_true c17
       clear c17
       by_cases c18 : 0≤x38_2
       ·rw[if_pos c18] at H
        have c18b0:decide (0≤x38_2)=true:=decide_eq_true c18
        clear c18
        by_cases c19:x38_2 < (l0_0.length:Int)
        ·rw[if_pos c19] at H
         have c19b0:decide (x38_2 < (l0_0.length:Int))=true:=decide_eq_true c19
         clear c19
         have HC20:=X.mk H
         clear H
         have p102 : 0≤(x38_2:Int):=of_decide_eq_true (by assumption)
         have q102:x38_2 < (l0_0.length:Int):=of_decide_eq_true (by assumption)
         obtain⟨ad102,A102_1,c102_1,A102_2,c102_2,A102_3,c102_3,A102_4,c102_4,e102,hx102_0,hx102_1,hx102_2,hx102_3,hx102_4,hl102_1,hi102_1,hl102_2,hi102_2,hl102_3,hi102_3,hl102_4,hi102_4⟩:=at_T77 HR0_0.out x38_2 p102 q102
         cases e102
         replace hx102_0:=(HB.out.cell (World.block_lt_of_cell? w _ hx102_0)).trans hx102_0
         replace hx102_1:=(HB.out.cell (World.block_lt_of_cell? w _ hx102_1)).trans hx102_1
         replace hx102_2:=(HB.out.cell (World.block_lt_of_cell? w _ hx102_2)).trans hx102_2
         replace hx102_3:=(HB.out.cell (World.block_lt_of_cell? w _ hx102_3)).trans hx102_3
         replace hx102_4:=(HB.out.cell (World.block_lt_of_cell? w _ hx102_4)).trans hx102_4
         have HR102_1:=X.mk hi102_1
         have HC102_1:=X.mk hl102_1
         clear hi102_1 hl102_1
         have HR102_2:=X.mk hi102_2
         have HC102_2:=X.mk hl102_2
         clear hi102_2 hl102_2
         have HR102_3:=X.mk hi102_3
         have HC102_3:=X.mk hl102_3
         clear hi102_3 hl102_3
         have HR102_4:=X.mk hi102_4
         have HC102_4:=X.mk hl102_4
         clear hi102_4 hl102_4
         replace p102:=eq_true p102
         replace q102:=eq_true q102
         go_upto_region 6 with (first|((with_reducible refine gate_dst (N:=4) rfl ?_);(try (refine gate_guard (by rfl) ?_;dsimp only));refine box_event ?hg (N:=4) ?hd (cs:=#[.string (⟨#[]⟩ : ByteArray),.slice none 0 0,.slice none 0 0,.slice none 0 0,.slice none 0 0]) (t:=77) ?hr ?_;(case hd=>rfl);(case hg=>rfl);(case hr=>first|(go_simp;done)|(go_simp;rfl));intro gb103 hg w21 hbox hb;have BK103:=X.mk (hbox);have GW103:=X.mk ((by rw[hg];exact(qx (by solve_by_elim (maxDepth:=20) only[HB.out,O,U,L,qq,GE101.out])):w.heap.size≤gb103));have GE103:=X.mk ((by rw[hg];exact(qx (by solve_by_elim (maxDepth:=20) only[HB.out,O,U,L,qq,GE101.out])):w.heap.size≤gb103));replace HB:=X.mk (qw (by solve_by_elim (maxDepth:=20) only[HB.out,O,U,L,qq,GE101.out]) hb);have NB101_103:=X.mk ((by rw[hg];exact Nat.ne_of_lt (blk_lt (g:=gb101) (o:=.cells #[.slice (some ad102) l0_0.length c0_0,.slice A0_1 l0_1.length c0_1,.int .i64 a0_2,.int .i64 a0_3] 45 (0,0)) (by solve_by_elim only[BK101.out,qj,qk,qz])):gb101≠gb103));have NB103_101:=X.mk ((by rw[hg];exact Nat.ne_of_gt (blk_lt (g:=gb101) (o:=.cells #[.slice (some ad102) l0_0.length c0_0,.slice A0_1 l0_1.length c0_1,.int .i64 a0_2,.int .i64 a0_3] 45 (0,0)) (by solve_by_elim only[BK101.out,qj,qk,qz])):gb103≠gb101));replace BK101:=X.mk (kj (g:=gb101) (o:=.cells #[.slice (some ad102) l0_0.length c0_0,.slice A0_1 l0_1.length c0_1,.int .i64 a0_2,.int .i64 a0_3] 45 (0,0)) (by solve_by_elim only[BK101.out,qj,qk,qz]) hb);clear hb hbox hg;have hnb22:=NB103_101.out;have hnc22:=NB101_103.out;have hcz23_0:w21.cell? ⟨gb103,0,none⟩ = some (.string (⟨#[]⟩ : ByteArray)):=(I BK103.out 0).trans rfl;have hcz23_1:w21.cell? ⟨gb103,1,none⟩ = some (.slice none 0 0):=(I BK103.out 1).trans rfl;have hcz23_2:w21.cell? ⟨gb103,2,none⟩ = some (.slice none 0 0):=(I BK103.out 2).trans rfl;have hcz23_3:w21.cell? ⟨gb103,3,none⟩ = some (.slice none 0 0):=(I BK103.out 3).trans rfl;have hcz23_4:w21.cell? ⟨gb103,4,none⟩ = some (.slice none 0 0):=(I BK103.out 4).trans rfl;have hfz23_0:=J BK103.out 0;have hfz23_1:=J BK103.out 1;have hfz23_2:=J BK103.out 2;have hfz23_3:=J BK103.out 3;have hfz23_4:=J BK103.out 4))
         (try simp only[Act.put,jq5,jq6,jq7])
         go_cut [92] (fun v92 wc=>∃ (kq:Nat) (x92_19:Bool),v92=.bool x92_19∧X (wk.j2 kq l0_0 (l0_0.length:Int) x38_2 x92_19 l0_0 l0_1 a0_2 a0_3 ((kw l0_0 x38_2).f0) ((kw l0_0 x38_2).f1) ((kw l0_0 x38_2).f2) ((kw l0_0 x38_2).f3) ((kw l0_0 x38_2).f4)=some r)∧X (kq≤k2)∧X (wc.heap[gb101]? = some (.cells #[(.slice (some ad102) l0_0.length c0_0),(.slice A0_1 l0_1.length c0_1),.int .i64 a0_2,.int .i64 a0_3] 45 (0,0)))∧X (wc.heap[gb103]? = some (.cells #[.string ((kw l0_0 x38_2).f0),(.slice A102_1 ((kw l0_0 x38_2).f1).length c102_1),(.slice A102_2 ((kw l0_0 x38_2).f2).length c102_2),(.slice A102_3 ((kw l0_0 x38_2).f3).length c102_3),(.slice A102_4 ((kw l0_0 x38_2).f4).length c102_4)] 77 (0,0)))∧X (Below w.heap.size w wc))
         case first =>
          have H:=HC20.out
          clear HC20
          replace H:=jq8.mp H
          obtain⟨t104,A240,H⟩:=H
          try dsimp only at H
          have A24:=X.mk A240
          clear A240
          by_cases c25:t104=true
          ·subst c25
           have H1:(if x38_2 > 0 then(if 0≤(wrap64 (x38_2 - 1)) then(if (wrap64 (x38_2 - 1)) < (l0_0.length:Int) then(if ((Op.bytesLess (((kw l0_0 (wrap64 (x38_2 - 1))).f0).toList) (((kw l0_0 x38_2).f0).toList))=true) then(if (((kw l0_0 x38_2).f1).length:Int)=0 then(if (((kw l0_0 x38_2).f2).length:Int) > 5 then(wk.j2 k2 l0_0 (l0_0.length:Int) x38_2 true l0_0 l0_1 a0_2 a0_3 ((kw l0_0 x38_2).f0) ((kw l0_0 x38_2).f1) ((kw l0_0 x38_2).f2) ((kw l0_0 x38_2).f3) ((kw l0_0 x38_2).f4)) else((xv.f k2 ((kw l0_0 x38_2).f3)).bind fun t106=>(if t106=true then(wk.j2 k2 l0_0 (l0_0.length:Int) x38_2 (decide ((((kw l0_0 x38_2).f4).length:Int) > 4)) l0_0 l0_1 a0_2 a0_3 ((kw l0_0 x38_2).f0) ((kw l0_0 x38_2).f1) ((kw l0_0 x38_2).f2) ((kw l0_0 x38_2).f3) ((kw l0_0 x38_2).f4)) else(wk.j2 k2 l0_0 (l0_0.length:Int) x38_2 true l0_0 l0_1 a0_2 a0_3 ((kw l0_0 x38_2).f0) ((kw l0_0 x38_2).f1) ((kw l0_0 x38_2).f2) ((kw l0_0 x38_2).f3) ((kw l0_0 x38_2).f4))))) else(if (((kw l0_0 x38_2).f1).length:Int)=16 then(if (((kw l0_0 x38_2).f2).length:Int) > 5 then(wk.j2 k2 l0_0 (l0_0.length:Int) x38_2 true l0_0 l0_1 a0_2 a0_3 ((kw l0_0 x38_2).f0) ((kw l0_0 x38_2).f1) ((kw l0_0 x38_2).f2) ((kw l0_0 x38_2).f3) ((kw l0_0 x38_2).f4)) else((xv.f k2 ((kw l0_0 x38_2).f3)).bind fun t107=>(if t107=true then(wk.j2 k2 l0_0 (l0_0.length:Int) x38_2 (decide ((((kw l0_0 x38_2).f4).length:Int) > 4)) l0_0 l0_1 a0_2 a0_3 ((kw l0_0 x38_2).f0) ((kw l0_0 x38_2).f1) ((kw l0_0 x38_2).f2) ((kw l0_0 x38_2).f3) ((kw l0_0 x38_2).f4)) else(wk.j2 k2 l0_0 (l0_0.length:Int) x38_2 true l0_0 l0_1 a0_2 a0_3 ((kw l0_0 x38_2).f0) ((kw l0_0 x38_2).f1) ((kw l0_0 x38_2).f2) ((kw l0_0 x38_2).f3) ((kw l0_0 x38_2).f4))))) else(wk.j2 k2 l0_0 (l0_0.length:Int) x38_2 true l0_0 l0_1 a0_2 a0_3 ((kw l0_0 x38_2).f0) ((kw l0_0 x38_2).f1) ((kw l0_0 x38_2).f2) ((kw l0_0 x38_2).f3) ((kw l0_0 x38_2).f4)))) else(wk.j2 k2 l0_0 (l0_0.length:Int) x38_2 true l0_0 l0_1 a0_2 a0_3 ((kw l0_0 x38_2).f0) ((kw l0_0 x38_2).f1) ((kw l0_0 x38_2).f2) ((kw l0_0 x38_2).f3) ((kw l0_0 x38_2).f4))) else(none)) else(none)) else(if (((kw l0_0 x38_2).f1).length:Int)=0 then(if (((kw l0_0 x38_2).f2).length:Int) > 5 then(wk.j2 k2 l0_0 (l0_0.length:Int) x38_2 true l0_0 l0_1 a0_2 a0_3 ((kw l0_0 x38_2).f0) ((kw l0_0 x38_2).f1) ((kw l0_0 x38_2).f2) ((kw l0_0 x38_2).f3) ((kw l0_0 x38_2).f4)) else((xv.f k2 ((kw l0_0 x38_2).f3)).bind fun t108=>(if t108=true then(wk.j2 k2 l0_0 (l0_0.length:Int) x38_2 (decide ((((kw l0_0 x38_2).f4).length:Int) > 4)) l0_0 l0_1 a0_2 a0_3 ((kw l0_0 x38_2).f0) ((kw l0_0 x38_2).f1) ((kw l0_0 x38_2).f2) ((kw l0_0 x38_2).f3) ((kw l0_0 x38_2).f4)) else(wk.j2 k2 l0_0 (l0_0.length:Int) x38_2 true l0_0 l0_1 a0_2 a0_3 ((kw l0_0 x38_2).f0) ((kw l0_0 x38_2).f1) ((kw l0_0 x38_2).f2) ((kw l0_0 x38_2).f3) ((kw l0_0 x38_2).f4))))) else(if (((kw l0_0 x38_2).f1).length:Int)=16 then(if (((kw l0_0 x38_2).f2).length:Int) > 5 then(wk.j2 k2 l0_0 (l0_0.length:Int) x38_2 true l0_0 l0_1 a0_2 a0_3 ((kw l0_0 x38_2).f0) ((kw l0_0 x38_2).f1) ((kw l0_0 x38_2).f2) ((kw l0_0 x38_2).f3) ((kw l0_0 x38_2).f4)) else((xv.f k2 ((kw l0_0 x38_2).f3)).bind fun t109=>(if t109=true then(wk.j2 k2 l0_0 (l0_0.length:Int) x38_2 (decide ((((kw l0_0 x38_2).f4).length:Int) > 4)) l0_0 l0_1 a0_2 a0_3 ((kw l0_0 x38_2).f0) ((kw l0_0 x38_2).f1) ((kw l0_0 x38_2).f2) ((kw l0_0 x38_2).f3) ((kw l0_0 x38_2).f4)) else(wk.j2 k2 l0_0 (l0_0.length:Int) x38_2 true l0_0 l0_1 a0_2 a0_3 ((kw l0_0 x38_2).f0) ((kw l0_0 x38_2).f1) ((kw l0_0 x38_2).f2) ((kw l0_0 x38_2).f3) ((kw l0_0 x38_2).f4))))) else(wk.j2 k2 l0_0 (l0_0.length:Int) x38_2 true l0_0 l0_1 a0_2 a0_3 ((kw l0_0 x38_2).f0) ((kw l0_0 x38_2).f1) ((kw l0_0 x38_2).f2) ((kw l0_0 x38_2).f3) ((kw l0_0 x38_2).f4)))))=some r:=by rw[if_pos rfl] at H;exact H
           clear H
           have H:=H1
           clear H1
           by_cases c26:x38_2 > 0
           ·rw[if_pos c26] at H
            have c26b0:decide (0 < x38_2)=true:=decide_eq_true c26
            clear c26
            (first|rw[c26b0]|(simp only[i64_w,i32_w];rw[c26b0])|skip)
            obtain⟨ji27,hji27⟩ : ∃ j_:Int,(wrap64 (x38_2 - 1))=j_:=⟨_,rfl⟩
            replace H:(if 0≤(ji27) then(if (ji27) < (l0_0.length:Int) then(if ((Op.bytesLess (((kw l0_0 (ji27)).f0).toList) (((kw l0_0 x38_2).f0).toList))=true) then(if (((kw l0_0 x38_2).f1).length:Int)=0 then(if (((kw l0_0 x38_2).f2).length:Int) > 5 then(wk.j2 k2 l0_0 (l0_0.length:Int) x38_2 true l0_0 l0_1 a0_2 a0_3 ((kw l0_0 x38_2).f0) ((kw l0_0 x38_2).f1) ((kw l0_0 x38_2).f2) ((kw l0_0 x38_2).f3) ((kw l0_0 x38_2).f4)) else((xv.f k2 ((kw l0_0 x38_2).f3)).bind fun t106=>(if t106=true then(wk.j2 k2 l0_0 (l0_0.length:Int) x38_2 (decide ((((kw l0_0 x38_2).f4).length:Int) > 4)) l0_0 l0_1 a0_2 a0_3 ((kw l0_0 x38_2).f0) ((kw l0_0 x38_2).f1) ((kw l0_0 x38_2).f2) ((kw l0_0 x38_2).f3) ((kw l0_0 x38_2).f4)) else(wk.j2 k2 l0_0 (l0_0.length:Int) x38_2 true l0_0 l0_1 a0_2 a0_3 ((kw l0_0 x38_2).f0) ((kw l0_0 x38_2).f1) ((kw l0_0 x38_2).f2) ((kw l0_0 x38_2).f3) ((kw l0_0 x38_2).f4))))) else(if (((kw l0_0 x38_2).f1).length:Int)=16 then(if (((kw l0_0 x38_2).f2).length:Int) > 5 then(wk.j2 k2 l0_0 (l0_0.length:Int) x38_2 true l0_0 l0_1 a0_2 a0_3 ((kw l0_0 x38_2).f0) ((kw l0_0 x38_2).f1) ((kw l0_0 x38_2).f2) ((kw l0_0 x38_2).f3) ((kw l0_0 x38_2).f4)) else((xv.f k2 ((kw l0_0 x38_2).f3)).bind fun t107=>(if t107=true then(wk.j2 k2 l0_0 (l0_0.length:Int) x38_2 (decide ((((kw l0_0 x38_2).f4).length:Int) > 4)) l0_0 l0_1 a0_2 a0_3 ((kw l0_0 x38_2).f0) ((kw l0_0 x38_2).f1) ((kw l0_0 x38_2).f2) ((kw l0_0 x38_2).f3) ((kw l0_0 x38_2).f4)) else(wk.j2 k2 l0_0 (l0_0.length:Int) x38_2 true l0_0 l0_1 a0_2 a0_3 ((kw l0_0 x38_2).f0) ((kw l0_0 x38_2).f1) ((kw l0_0 x38_2).f2) ((kw l0_0 x38_2).f3) ((kw l0_0 x38_2).f4))))) else(wk.j2 k2 l0_0 (l0_0.length:Int) x38_2 true l0_0 l0_1 a0_2 a0_3 ((kw l0_0 x38_2).f0) ((kw l0_0 x38_2).f1) ((kw l0_0 x38_2).f2) ((kw l0_0 x38_2).f3) ((kw l0_0 x38_2).f4)))) else(wk.j2 k2 l0_0 (l0_0.length:Int) x38_2 true l0_0 l0_1 a0_2 a0_3 ((kw l0_0 x38_2).f0) ((kw l0_0 x38_2).f1) ((kw l0_0 x38_2).f2) ((kw l0_0 x38_2).f3) ((kw l0_0 x38_2).f4))) else(none)) else(none))=some r:=by first|(rw[hji27] at H;exact H)|(simp only[hji27] at H ⊢;exact H)
            (try rw[hji27] at A24)
            have hji27w:(IntKind.i64.wrap (x38_2 - 1))=ji27:=(i64_w _).trans hji27
            by_cases c28 : 0≤(ji27)
            ·rw[if_pos c28] at H
             have c28b0:decide (0≤(ji27))=true:=decide_eq_true c28
             clear c28
             by_cases c29:(ji27) < (l0_0.length:Int)
             ·rw[if_pos c29] at H
              have c29b0:decide ((ji27) < (l0_0.length:Int))=true:=decide_eq_true c29
              clear c29
              by_cases c30:((Op.bytesLess (((kw l0_0 (ji27)).f0).toList) (((kw l0_0 x38_2).f0).toList))=true)
              ·rw[if_pos c30] at H
               have c30b0:(Op.bytesLess (((kw l0_0 (ji27)).f0).toList) (((kw l0_0 x38_2).f0).toList))=true:=c30
               clear c30
               by_cases c31:(((kw l0_0 x38_2).f1).length:Int)=0
               ·rw[if_pos c31] at H
                have c31b0:((((kw l0_0 x38_2).f1).length:Int) == 0)=true:=beq_iff_eq.mpr c31
                have c31b1:((((kw l0_0 x38_2).f1).length:Int) != 0)=false:=bne_eq_false_iff_eq.mpr c31
                clear c31
                by_cases c32:(((kw l0_0 x38_2).f2).length:Int) > 5
                ·rw[if_pos c32] at H
                 have c32b0:decide (5 < (((kw l0_0 x38_2).f2).length:Int))=true:=decide_eq_true c32
                 have c32b1:decide (5 < ((kw l0_0 x38_2).f2).length)=true:=decide_eq_true (by omega)
                 clear c32
                 have H':=X.mk H
                 clear H
                 try go_wp2
                 obtain⟨w33,e_⟩:∃ v_,v_=(((((w21.setCell ⟨gb103,0,none⟩ (.string ((kw l0_0 x38_2).f0))).setCell ⟨gb103,1,none⟩ (.slice A102_1 ((kw l0_0 x38_2).f1).length c102_1)).setCell ⟨gb103,2,none⟩ (.slice A102_2 ((kw l0_0 x38_2).f2).length c102_2)).setCell ⟨gb103,3,none⟩ (.slice A102_3 ((kw l0_0 x38_2).f3).length c102_3)).setCell ⟨gb103,4,none⟩ (.slice A102_4 ((kw l0_0 x38_2).f4).length c102_4)):=⟨_,rfl⟩
                 have n0_:X (w33.heap[gb101]? = some (.cells #[.slice (some ad102) l0_0.length c0_0,.slice A0_1 l0_1.length c0_1,.int .i64 a0_2,.int .i64 a0_3] 45 (0,0))):=⟨by rewrite[e_];exact far5 BK101.out NB101_103.out⟩
                 have n1_:X (w33.heap[gb103]? = some (.cells #[.string ((kw l0_0 x38_2).f0),.slice A102_1 ((kw l0_0 x38_2).f1).length c102_1,.slice A102_2 ((kw l0_0 x38_2).f2).length c102_2,.slice A102_3 ((kw l0_0 x38_2).f3).length c102_3,.slice A102_4 ((kw l0_0 x38_2).f4).length c102_4] 77 (0,0))):=⟨by rewrite[e_];exact put5 BK103.out⟩
                 have n2_:X (Below w.heap.size w w33):=⟨by rewrite[e_];repeat(first|(with_reducible first|exact HB.out|apply O|apply U|apply L|refine qq ?_ GE101.out|refine qq ?_ GE103.out)|exact HB.out)⟩
                 (try clear BK101)
                 (try clear BK103)
                 (try clear HB)
                 rewrite[←e_]
                 clear e_
                 have BK101:=n0_
                 have BK103:=n1_
                 have HB:=n2_
                 clear n0_ n1_ n2_
                 have p105 : 0≤((ji27):Int):=of_decide_eq_true (by assumption)
                 have q105:(ji27) < (l0_0.length:Int):=of_decide_eq_true (by assumption)
                 obtain⟨ad105,A105_1,c105_1,A105_2,c105_2,A105_3,c105_3,A105_4,c105_4,e105,hx105_0,hx105_1,hx105_2,hx105_3,hx105_4,hl105_1,hi105_1,hl105_2,hi105_2,hl105_3,hi105_3,hl105_4,hi105_4⟩:=at_T77 HR0_0.out (ji27) p105 q105
                 have hw105_4:=hx105_4
                 have hw105_3:=hx105_3
                 have hw105_2:=hx105_2
                 have hw105_1:=hx105_1
                 have hw105_0:=hx105_0
                 obtain rfl:ad102=ad105:=(by injection e105)
                 replace hx105_0:=(HB.out.cell (World.block_lt_of_cell? w _ hx105_0)).trans hx105_0
                 replace hx105_1:=(HB.out.cell (World.block_lt_of_cell? w _ hx105_1)).trans hx105_1
                 replace hx105_2:=(HB.out.cell (World.block_lt_of_cell? w _ hx105_2)).trans hx105_2
                 replace hx105_3:=(HB.out.cell (World.block_lt_of_cell? w _ hx105_3)).trans hx105_3
                 replace hx105_4:=(HB.out.cell (World.block_lt_of_cell? w _ hx105_4)).trans hx105_4
                 have HR105_1:=X.mk hi105_1
                 have HC105_1:=X.mk hl105_1
                 clear hi105_1 hl105_1
                 have HR105_2:=X.mk hi105_2
                 have HC105_2:=X.mk hl105_2
                 clear hi105_2 hl105_2
                 have HR105_3:=X.mk hi105_3
                 have HC105_3:=X.mk hl105_3
                 clear hi105_3 hl105_3
                 have HR105_4:=X.mk hi105_4
                 have HC105_4:=X.mk hl105_4
                 clear hi105_4 hl105_4
                 replace p105:=eq_true p105
                 replace q105:=eq_true q105
                 have hS_:=(show(fun w'=>w'.cell? ⟨gb103,0,none⟩ = some (.string ((kw l0_0 x38_2).f0))∧w'.cell? ⟨gb103,1,none⟩ = some (.slice A102_1 ((kw l0_0 x38_2).f1).length c102_1)∧w'.cell? ⟨gb103,2,none⟩ = some (.slice A102_2 ((kw l0_0 x38_2).f2).length c102_2)∧w'.cell? ⟨gb103,3,none⟩ = some (.slice A102_3 ((kw l0_0 x38_2).f3).length c102_3)∧w'.cell? ⟨gb103,4,none⟩ = some (.slice A102_4 ((kw l0_0 x38_2).f4).length c102_4)∧w'.cell? ⟨gb101,0,none⟩ = some (.slice (some ad102) l0_0.length c0_0)∧w'.cell? ⟨gb101,1,none⟩ = some (.slice A0_1 l0_1.length c0_1)∧w'.cell? ⟨gb101,2,none⟩ = some (.int .i64 a0_2)∧w'.cell? ⟨gb101,3,none⟩ = some (.int .i64 a0_3)∧w'.cell? (ad102.add (((ji27)).toNat * 5))=some (.string ((kw l0_0 (ji27)).f0))∧w'.cell? ⟨(ad102.add (((ji27)).toNat * 5)).block,(ad102.add (((ji27)).toNat * 5)).off + 1,none⟩ = some (.slice A105_1 ((kw l0_0 (ji27)).f1).length c105_1)∧w'.cell? ⟨(ad102.add (((ji27)).toNat * 5)).block,(ad102.add (((ji27)).toNat * 5)).off + 2,none⟩ = some (.slice A105_2 ((kw l0_0 (ji27)).f2).length c105_2)∧w'.cell? ⟨(ad102.add (((ji27)).toNat * 5)).block,(ad102.add (((ji27)).toNat * 5)).off + 3,none⟩ = some (.slice A105_3 ((kw l0_0 (ji27)).f3).length c105_3)∧w'.cell? ⟨(ad102.add (((ji27)).toNat * 5)).block,(ad102.add (((ji27)).toNat * 5)).off + 4,none⟩ = some (.slice A105_4 ((kw l0_0 (ji27)).f4).length c105_4)) (w33) from⟨(I BK103.out 0).trans rfl,(I BK103.out 1).trans rfl,(I BK103.out 2).trans rfl,(I BK103.out 3).trans rfl,(I BK103.out 4).trans rfl,(I BK101.out 0).trans rfl,(I BK101.out 1).trans rfl,(I BK101.out 2).trans rfl,(I BK101.out 3).trans rfl,((HB.out.cell (World.block_lt_of_cell? w _ hw105_0)).trans hw105_0),((HB.out.cell (World.block_lt_of_cell? w _ hw105_1)).trans hw105_1),((HB.out.cell (World.block_lt_of_cell? w _ hw105_2)).trans hw105_2),((HB.out.cell (World.block_lt_of_cell? w _ hw105_3)).trans hw105_3),((HB.out.cell (World.block_lt_of_cell? w _ hw105_4)).trans hw105_4)⟩)
                 obtain⟨hS0_,hS1_,hS2_,hS3_,hS4_,hS5_,hS6_,hS7_,hS8_,hS9_,hS10_,hS11_,hS12_,hS13_⟩:=hS_
                 go_quiet ((first|(go_at_call 40;exact Calls.quiet_of ((xw.calls k2 ((kw l0_0 x38_2).f0) true _ A24.out).mono fun _ _ h=>⟨h.1,h.2.out⟩))))
                 clear hS0_ hS1_ hS2_ hS3_ hS4_ hS5_ hS6_ hS7_ hS8_ hS9_ hS10_ hS11_ hS12_ hS13_
                 replace BK101:=X.mk (qj BK101.out nq)
                 replace BK103:=X.mk (qj BK103.out nq)
                 replace HB:=X.mk (U HB.out nq)
                 replace hx105_0:(World.drewN w33 nq).cell? _=_:=hx105_0
                 replace hx105_1:(World.drewN w33 nq).cell? _=_:=hx105_1
                 replace hx105_2:(World.drewN w33 nq).cell? _=_:=hx105_2
                 replace hx105_3:(World.drewN w33 nq).cell? _=_:=hx105_3
                 replace hx105_4:(World.drewN w33 nq).cell? _=_:=hx105_4
                 generalize World.drewN w33 nq=w34 at BK101 BK103 HB HR105_1 HR105_2 HR105_3 HR105_4 hx105_0 hx105_1 hx105_2 hx105_3 hx105_4 ⊢
                 try go_wp2
                 go_meet
                 case rel=>exact⟨_,(true),(by first|rfl|(simp;done)|(simp[*];done)),H',⟨by have:=HJ1.out;have:=HK2.out;first|omega|exact Nat.le_refl _⟩,⟨by(with_reducible repeat(first|refine qj ?_ _|refine qk ?_|refine qz ?_ _));exact BK101.out⟩,⟨by(with_reducible repeat(first|refine qj ?_ _|refine qk ?_|refine qz ?_ _));exact BK103.out⟩,⟨by repeat(first|(with_reducible first|exact HB.out|apply O|apply U|apply L|refine qq ?_ GE101.out|refine qq ?_ GE103.out)|exact HB.out)⟩⟩
                ·rw[if_neg c32] at H
                 have c32b0:decide (5 < (((kw l0_0 x38_2).f2).length:Int))=false:=decide_eq_false c32
                 have c32b1:decide (5 < ((kw l0_0 x38_2).f2).length)=false:=decide_eq_false (by omega)
                 clear c32
                 replace H:=jq8.mp H
                 obtain⟨t106,A350,H⟩:=H
                 try dsimp only at H
                 have A35:=X.mk A350
                 clear A350
                 by_cases c36:t106=true
                 ·subst c36
                  have H1:(wk.j2 k2 l0_0 (l0_0.length:Int) x38_2 (decide ((((kw l0_0 x38_2).f4).length:Int) > 4)) l0_0 l0_1 a0_2 a0_3 ((kw l0_0 x38_2).f0) ((kw l0_0 x38_2).f1) ((kw l0_0 x38_2).f2) ((kw l0_0 x38_2).f3) ((kw l0_0 x38_2).f4))=some r:=by rw[if_pos rfl] at H;exact H
                  clear H
                  have H:=H1
                  clear H1
                  have H':=X.mk H
                  clear H
                  try go_wp2
                  obtain⟨w37,e_⟩:∃ v_,v_=(((((w21.setCell ⟨gb103,0,none⟩ (.string ((kw l0_0 x38_2).f0))).setCell ⟨gb103,1,none⟩ (.slice A102_1 ((kw l0_0 x38_2).f1).length c102_1)).setCell ⟨gb103,2,none⟩ (.slice A102_2 ((kw l0_0 x38_2).f2).length c102_2)).setCell ⟨gb103,3,none⟩ (.slice A102_3 ((kw l0_0 x38_2).f3).length c102_3)).setCell ⟨gb103,4,none⟩ (.slice A102_4 ((kw l0_0 x38_2).f4).length c102_4)):=⟨_,rfl⟩
                  have n0_:X (w37.heap[gb101]? = some (.cells #[.slice (some ad102) l0_0.length c0_0,.slice A0_1 l0_1.length c0_1,.int .i64 a0_2,.int .i64 a0_3] 45 (0,0))):=⟨by rewrite[e_];exact far5 BK101.out NB101_103.out⟩
                  have n1_:X (w37.heap[gb103]? = some (.cells #[.string ((kw l0_0 x38_2).f0),.slice A102_1 ((kw l0_0 x38_2).f1).length c102_1,.slice A102_2 ((kw l0_0 x38_2).f2).length c102_2,.slice A102_3 ((kw l0_0 x38_2).f3).length c102_3,.slice A102_4 ((kw l0_0 x38_2).f4).length c102_4] 77 (0,0))):=⟨by rewrite[e_];exact put5 BK103.out⟩
                  have n2_:X (Below w.heap.size w w37):=⟨by rewrite[e_];repeat(first|(with_reducible first|exact HB.out|apply O|apply U|apply L|refine qq ?_ GE101.out|refine qq ?_ GE103.out)|exact HB.out)⟩
                  (try clear BK101)
                  (try clear BK103)
                  (try clear HB)
                  rewrite[←e_]
                  clear e_
                  have BK101:=n0_
                  have BK103:=n1_
                  have HB:=n2_
                  clear n0_ n1_ n2_
                  have p105 : 0≤((ji27):Int):=of_decide_eq_true (by assumption)
                  have q105:(ji27) < (l0_0.length:Int):=of_decide_eq_true (by assumption)
                  obtain⟨ad105,A105_1,c105_1,A105_2,c105_2,A105_3,c105_3,A105_4,c105_4,e105,hx105_0,hx105_1,hx105_2,hx105_3,hx105_4,hl105_1,hi105_1,hl105_2,hi105_2,hl105_3,hi105_3,hl105_4,hi105_4⟩:=at_T77 HR0_0.out (ji27) p105 q105
                  have hw105_4:=hx105_4
                  have hw105_3:=hx105_3
                  have hw105_2:=hx105_2
                  have hw105_1:=hx105_1
                  have hw105_0:=hx105_0
                  obtain rfl:ad102=ad105:=(by injection e105)
                  replace hx105_0:=(HB.out.cell (World.block_lt_of_cell? w _ hx105_0)).trans hx105_0
                  replace hx105_1:=(HB.out.cell (World.block_lt_of_cell? w _ hx105_1)).trans hx105_1
                  replace hx105_2:=(HB.out.cell (World.block_lt_of_cell? w _ hx105_2)).trans hx105_2
                  replace hx105_3:=(HB.out.cell (World.block_lt_of_cell? w _ hx105_3)).trans hx105_3
                  replace hx105_4:=(HB.out.cell (World.block_lt_of_cell? w _ hx105_4)).trans hx105_4
                  have HR105_1:=X.mk hi105_1
                  have HC105_1:=X.mk hl105_1
                  clear hi105_1 hl105_1
                  have HR105_2:=X.mk hi105_2
                  have HC105_2:=X.mk hl105_2
                  clear hi105_2 hl105_2
                  have HR105_3:=X.mk hi105_3
                  have HC105_3:=X.mk hl105_3
                  clear hi105_3 hl105_3
                  have HR105_4:=X.mk hi105_4
                  have HC105_4:=X.mk hl105_4
                  clear hi105_4 hl105_4
                  replace p105:=eq_true p105
                  replace q105:=eq_true q105
                  have hS_:=(show(fun w'=>w'.cell? ⟨gb103,0,none⟩ = some (.string ((kw l0_0 x38_2).f0))∧w'.cell? ⟨gb103,1,none⟩ = some (.slice A102_1 ((kw l0_0 x38_2).f1).length c102_1)∧w'.cell? ⟨gb103,2,none⟩ = some (.slice A102_2 ((kw l0_0 x38_2).f2).length c102_2)∧w'.cell? ⟨gb103,3,none⟩ = some (.slice A102_3 ((kw l0_0 x38_2).f3).length c102_3)∧w'.cell? ⟨gb103,4,none⟩ = some (.slice A102_4 ((kw l0_0 x38_2).f4).length c102_4)∧w'.cell? ⟨gb101,0,none⟩ = some (.slice (some ad102) l0_0.length c0_0)∧w'.cell? ⟨gb101,1,none⟩ = some (.slice A0_1 l0_1.length c0_1)∧w'.cell? ⟨gb101,2,none⟩ = some (.int .i64 a0_2)∧w'.cell? ⟨gb101,3,none⟩ = some (.int .i64 a0_3)∧w'.cell? (ad102.add (((ji27)).toNat * 5))=some (.string ((kw l0_0 (ji27)).f0))∧w'.cell? ⟨(ad102.add (((ji27)).toNat * 5)).block,(ad102.add (((ji27)).toNat * 5)).off + 1,none⟩ = some (.slice A105_1 ((kw l0_0 (ji27)).f1).length c105_1)∧w'.cell? ⟨(ad102.add (((ji27)).toNat * 5)).block,(ad102.add (((ji27)).toNat * 5)).off + 2,none⟩ = some (.slice A105_2 ((kw l0_0 (ji27)).f2).length c105_2)∧w'.cell? ⟨(ad102.add (((ji27)).toNat * 5)).block,(ad102.add (((ji27)).toNat * 5)).off + 3,none⟩ = some (.slice A105_3 ((kw l0_0 (ji27)).f3).length c105_3)∧w'.cell? ⟨(ad102.add (((ji27)).toNat * 5)).block,(ad102.add (((ji27)).toNat * 5)).off + 4,none⟩ = some (.slice A105_4 ((kw l0_0 (ji27)).f4).length c105_4)) (w37) from⟨(I BK103.out 0).trans rfl,(I BK103.out 1).trans rfl,(I BK103.out 2).trans rfl,(I BK103.out 3).trans rfl,(I BK103.out 4).trans rfl,(I BK101.out 0).trans rfl,(I BK101.out 1).trans rfl,(I BK101.out 2).trans rfl,(I BK101.out 3).trans rfl,((HB.out.cell (World.block_lt_of_cell? w _ hw105_0)).trans hw105_0),((HB.out.cell (World.block_lt_of_cell? w _ hw105_1)).trans hw105_1),((HB.out.cell (World.block_lt_of_cell? w _ hw105_2)).trans hw105_2),((HB.out.cell (World.block_lt_of_cell? w _ hw105_3)).trans hw105_3),((HB.out.cell (World.block_lt_of_cell? w _ hw105_4)).trans hw105_4)⟩)
                  obtain⟨hS0_,hS1_,hS2_,hS3_,hS4_,hS5_,hS6_,hS7_,hS8_,hS9_,hS10_,hS11_,hS12_,hS13_⟩:=hS_
                  go_quiet ((first|(go_at_call 40;exact Calls.quiet_of ((xw.calls k2 ((kw l0_0 x38_2).f0) true _ A24.out).mono fun _ _ h=>⟨h.1,h.2.out⟩))|(go_at_call 47;exact Calls.quiet_of ((xv.calls k2 _ _ ((kw l0_0 x38_2).f3) true _ (by repeat(first|exact(Kd.C_below HR102_3.out (by solve_by_elim (maxDepth:=20) only[HB.out,O,U,L,qq,GE101.out,qq,GE103.out]))|(with_reducible refine Kd.C_alloc ?_ _)|(with_reducible refine Kd.C_drewN ?_ _)|(with_reducible refine Kd.C_drew ?_))) (by exact HC102_3.out) A35.out).mono fun _ _ h=>⟨h.1,h.2.out⟩))))
                  clear hS0_ hS1_ hS2_ hS3_ hS4_ hS5_ hS6_ hS7_ hS8_ hS9_ hS10_ hS11_ hS12_ hS13_
                  replace BK101:=X.mk (qj BK101.out nq)
                  replace BK103:=X.mk (qj BK103.out nq)
                  replace HB:=X.mk (U HB.out nq)
                  replace hx105_0:(World.drewN w37 nq).cell? _=_:=hx105_0
                  replace hx105_1:(World.drewN w37 nq).cell? _=_:=hx105_1
                  replace hx105_2:(World.drewN w37 nq).cell? _=_:=hx105_2
                  replace hx105_3:(World.drewN w37 nq).cell? _=_:=hx105_3
                  replace hx105_4:(World.drewN w37 nq).cell? _=_:=hx105_4
                  generalize World.drewN w37 nq=w38 at BK101 BK103 HB HR105_1 HR105_2 HR105_3 HR105_4 hx105_0 hx105_1 hx105_2 hx105_3 hx105_4 ⊢
                  try go_wp2
                  go_meet
                  case rel=>exact⟨_,(decide ((((kw l0_0 x38_2).f4).length:Int) > 4)),(by first|rfl|(simp;done)|(simp[*];done)),H',⟨by have:=HJ1.out;have:=HK2.out;first|omega|exact Nat.le_refl _⟩,⟨by(with_reducible repeat(first|refine qj ?_ _|refine qk ?_|refine qz ?_ _));exact BK101.out⟩,⟨by(with_reducible repeat(first|refine qj ?_ _|refine qk ?_|refine qz ?_ _));exact BK103.out⟩,⟨by repeat(first|(with_reducible first|exact HB.out|apply O|apply U|apply L|refine qq ?_ GE101.out|refine qq ?_ GE103.out)|exact HB.out)⟩⟩
                 ·replace c36:=jq9.mpr c36
                  subst c36
                  have H1:(wk.j2 k2 l0_0 (l0_0.length:Int) x38_2 true l0_0 l0_1 a0_2 a0_3 ((kw l0_0 x38_2).f0) ((kw l0_0 x38_2).f1) ((kw l0_0 x38_2).f2) ((kw l0_0 x38_2).f3) ((kw l0_0 x38_2).f4))=some r:=by rw[if_neg (show ¬ (false=true) by decide)] at H;exact H
                  clear H
                  have H:=H1
                  clear H1
                  have H':=X.mk H
                  clear H
                  try go_wp2
                  obtain⟨w39,e_⟩:∃ v_,v_=(((((w21.setCell ⟨gb103,0,none⟩ (.string ((kw l0_0 x38_2).f0))).setCell ⟨gb103,1,none⟩ (.slice A102_1 ((kw l0_0 x38_2).f1).length c102_1)).setCell ⟨gb103,2,none⟩ (.slice A102_2 ((kw l0_0 x38_2).f2).length c102_2)).setCell ⟨gb103,3,none⟩ (.slice A102_3 ((kw l0_0 x38_2).f3).length c102_3)).setCell ⟨gb103,4,none⟩ (.slice A102_4 ((kw l0_0 x38_2).f4).length c102_4)):=⟨_,rfl⟩
                  have n0_:X (w39.heap[gb101]? = some (.cells #[.slice (some ad102) l0_0.length c0_0,.slice A0_1 l0_1.length c0_1,.int .i64 a0_2,.int .i64 a0_3] 45 (0,0))):=⟨by rewrite[e_];exact far5 BK101.out NB101_103.out⟩
                  have n1_:X (w39.heap[gb103]? = some (.cells #[.string ((kw l0_0 x38_2).f0),.slice A102_1 ((kw l0_0 x38_2).f1).length c102_1,.slice A102_2 ((kw l0_0 x38_2).f2).length c102_2,.slice A102_3 ((kw l0_0 x38_2).f3).length c102_3,.slice A102_4 ((kw l0_0 x38_2).f4).length c102_4] 77 (0,0))):=⟨by rewrite[e_];exact put5 BK103.out⟩
                  have n2_:X (Below w.heap.size w w39):=⟨by rewrite[e_];repeat(first|(with_reducible first|exact HB.out|apply O|apply U|apply L|refine qq ?_ GE101.out|refine qq ?_ GE103.out)|exact HB.out)⟩
                  (try clear BK101)
                  (try clear BK103)
                  (try clear HB)
                  rewrite[←e_]
                  clear e_
                  have BK101:=n0_
                  have BK103:=n1_
                  have HB:=n2_
                  clear n0_ n1_ n2_
                  have p105 : 0≤((ji27):Int):=of_decide_eq_true (by assumption)
                  have q105:(ji27) < (l0_0.length:Int):=of_decide_eq_true (by assumption)
                  obtain⟨ad105,A105_1,c105_1,A105_2,c105_2,A105_3,c105_3,A105_4,c105_4,e105,hx105_0,hx105_1,hx105_2,hx105_3,hx105_4,hl105_1,hi105_1,hl105_2,hi105_2,hl105_3,hi105_3,hl105_4,hi105_4⟩:=at_T77 HR0_0.out (ji27) p105 q105
                  have hw105_4:=hx105_4
                  have hw105_3:=hx105_3
                  have hw105_2:=hx105_2
                  have hw105_1:=hx105_1
                  have hw105_0:=hx105_0
                  obtain rfl:ad102=ad105:=(by injection e105)
                  replace hx105_0:=(HB.out.cell (World.block_lt_of_cell? w _ hx105_0)).trans hx105_0
                  replace hx105_1:=(HB.out.cell (World.block_lt_of_cell? w _ hx105_1)).trans hx105_1
                  replace hx105_2:=(HB.out.cell (World.block_lt_of_cell? w _ hx105_2)).trans hx105_2
                  replace hx105_3:=(HB.out.cell (World.block_lt_of_cell? w _ hx105_3)).trans hx105_3
                  replace hx105_4:=(HB.out.cell (World.block_lt_of_cell? w _ hx105_4)).trans hx105_4
                  have HR105_1:=X.mk hi105_1
                  have HC105_1:=X.mk hl105_1
                  clear hi105_1 hl105_1
                  have HR105_2:=X.mk hi105_2
                  have HC105_2:=X.mk hl105_2
                  clear hi105_2 hl105_2
                  have HR105_3:=X.mk hi105_3
                  have HC105_3:=X.mk hl105_3
                  clear hi105_3 hl105_3
                  have HR105_4:=X.mk hi105_4
                  have HC105_4:=X.mk hl105_4
                  clear hi105_4 hl105_4
                  replace p105:=eq_true p105
                  replace q105:=eq_true q105
                  have hS_:=(show(fun w'=>w'.cell? ⟨gb103,0,none⟩ = some (.string ((kw l0_0 x38_2).f0))∧w'.cell? ⟨gb103,1,none⟩ = some (.slice A102_1 ((kw l0_0 x38_2).f1).length c102_1)∧w'.cell? ⟨gb103,2,none⟩ = some (.slice A102_2 ((kw l0_0 x38_2).f2).length c102_2)∧w'.cell? ⟨gb103,3,none⟩ = some (.slice A102_3 ((kw l0_0 x38_2).f3).length c102_3)∧w'.cell? ⟨gb103,4,none⟩ = some (.slice A102_4 ((kw l0_0 x38_2).f4).length c102_4)∧w'.cell? ⟨gb101,0,none⟩ = some (.slice (some ad102) l0_0.length c0_0)∧w'.cell? ⟨gb101,1,none⟩ = some (.slice A0_1 l0_1.length c0_1)∧w'.cell? ⟨gb101,2,none⟩ = some (.int .i64 a0_2)∧w'.cell? ⟨gb101,3,none⟩ = some (.int .i64 a0_3)∧w'.cell? (ad102.add (((ji27)).toNat * 5))=some (.string ((kw l0_0 (ji27)).f0))∧w'.cell? ⟨(ad102.add (((ji27)).toNat * 5)).block,(ad102.add (((ji27)).toNat * 5)).off + 1,none⟩ = some (.slice A105_1 ((kw l0_0 (ji27)).f1).length c105_1)∧w'.cell? ⟨(ad102.add (((ji27)).toNat * 5)).block,(ad102.add (((ji27)).toNat * 5)).off + 2,none⟩ = some (.slice A105_2 ((kw l0_0 (ji27)).f2).length c105_2)∧w'.cell? ⟨(ad102.add (((ji27)).toNat * 5)).block,(ad102.add (((ji27)).toNat * 5)).off + 3,none⟩ = some (.slice A105_3 ((kw l0_0 (ji27)).f3).length c105_3)∧w'.cell? ⟨(ad102.add (((ji27)).toNat * 5)).block,(ad102.add (((ji27)).toNat * 5)).off + 4,none⟩ = some (.slice A105_4 ((kw l0_0 (ji27)).f4).length c105_4)) (w39) from⟨(I BK103.out 0).trans rfl,(I BK103.out 1).trans rfl,(I BK103.out 2).trans rfl,(I BK103.out 3).trans rfl,(I BK103.out 4).trans rfl,(I BK101.out 0).trans rfl,(I BK101.out 1).trans rfl,(I BK101.out 2).trans rfl,(I BK101.out 3).trans rfl,((HB.out.cell (World.block_lt_of_cell? w _ hw105_0)).trans hw105_0),((HB.out.cell (World.block_lt_of_cell? w _ hw105_1)).trans hw105_1),((HB.out.cell (World.block_lt_of_cell? w _ hw105_2)).trans hw105_2),((HB.out.cell (World.block_lt_of_cell? w _ hw105_3)).trans hw105_3),((HB.out.cell (World.block_lt_of_cell? w _ hw105_4)).trans hw105_4)⟩)
                  obtain⟨hS0_,hS1_,hS2_,hS3_,hS4_,hS5_,hS6_,hS7_,hS8_,hS9_,hS10_,hS11_,hS12_,hS13_⟩:=hS_
                  go_quiet ((first|(go_at_call 40;exact Calls.quiet_of ((xw.calls k2 ((kw l0_0 x38_2).f0) true _ A24.out).mono fun _ _ h=>⟨h.1,h.2.out⟩))|(go_at_call 47;exact Calls.quiet_of ((xv.calls k2 _ _ ((kw l0_0 x38_2).f3) false _ (by repeat(first|exact(Kd.C_below HR102_3.out (by solve_by_elim (maxDepth:=20) only[HB.out,O,U,L,qq,GE101.out,qq,GE103.out]))|(with_reducible refine Kd.C_alloc ?_ _)|(with_reducible refine Kd.C_drewN ?_ _)|(with_reducible refine Kd.C_drew ?_))) (by exact HC102_3.out) A35.out).mono fun _ _ h=>⟨h.1,h.2.out⟩))))
                  clear hS0_ hS1_ hS2_ hS3_ hS4_ hS5_ hS6_ hS7_ hS8_ hS9_ hS10_ hS11_ hS12_ hS13_
                  replace BK101:=X.mk (qj BK101.out nq)
                  replace BK103:=X.mk (qj BK103.out nq)
                  replace HB:=X.mk (U HB.out nq)
                  replace hx105_0:(World.drewN w39 nq).cell? _=_:=hx105_0
                  replace hx105_1:(World.drewN w39 nq).cell? _=_:=hx105_1
                  replace hx105_2:(World.drewN w39 nq).cell? _=_:=hx105_2
                  replace hx105_3:(World.drewN w39 nq).cell? _=_:=hx105_3
                  replace hx105_4:(World.drewN w39 nq).cell? _=_:=hx105_4
                  generalize World.drewN w39 nq=w40 at BK101 BK103 HB HR105_1 HR105_2 HR105_3 HR105_4 hx105_0 hx105_1 hx105_2 hx105_3 hx105_4 ⊢
                  try go_wp2
                  go_meet
                  case rel=>exact⟨_,(true),(by first|rfl|(simp;done)|(simp[*];done)),H',⟨by have:=HJ1.out;have:=HK2.out;first|omega|exact Nat.le_refl _⟩,⟨by(with_reducible repeat(first|refine qj ?_ _|refine qk ?_|refine qz ?_ _));exact BK101.out⟩,⟨by(with_reducible repeat(first|refine qj ?_ _|refine qk ?_|refine qz ?_ _));exact BK103.out⟩,⟨by repeat(first|(with_reducible first|exact HB.out|apply O|apply U|apply L|refine qq ?_ GE101.out|refine qq ?_ GE103.out)|exact HB.out)⟩⟩
               ·rw[if_neg c31] at H
                have c31b0:((((kw l0_0 x38_2).f1).length:Int) == 0)=false:=beq_eq_false_iff_ne.mpr c31
                have c31b1:((((kw l0_0 x38_2).f1).length:Int) != 0)=true:=bne_iff_ne.mpr c31
                have c31b2:¬ (((kw l0_0 x38_2).f1)=[]):=fun h_=>c31 (by rw[h_];rfl)
                by_cases c41:(((kw l0_0 x38_2).f1).length:Int)=16
                ·rw[if_pos c41] at H
                 have c41b0:((((kw l0_0 x38_2).f1).length:Int) == 16)=true:=beq_iff_eq.mpr c41
                 have c41b1:((((kw l0_0 x38_2).f1).length:Int) != 16)=false:=bne_eq_false_iff_eq.mpr c41
                 clear c41
                 by_cases c42:(((kw l0_0 x38_2).f2).length:Int) > 5
                 ·rw[if_pos c42] at H
                  have c42b0:decide (5 < (((kw l0_0 x38_2).f2).length:Int))=true:=decide_eq_true c42
                  have c42b1:decide (5 < ((kw l0_0 x38_2).f2).length)=true:=decide_eq_true (by omega)
                  clear c42
                  have H':=X.mk H
                  clear H
                  try go_wp2
                  obtain⟨w43,e_⟩:∃ v_,v_=(((((w21.setCell ⟨gb103,0,none⟩ (.string ((kw l0_0 x38_2).f0))).setCell ⟨gb103,1,none⟩ (.slice A102_1 ((kw l0_0 x38_2).f1).length c102_1)).setCell ⟨gb103,2,none⟩ (.slice A102_2 ((kw l0_0 x38_2).f2).length c102_2)).setCell ⟨gb103,3,none⟩ (.slice A102_3 ((kw l0_0 x38_2).f3).length c102_3)).setCell ⟨gb103,4,none⟩ (.slice A102_4 ((kw l0_0 x38_2).f4).length c102_4)):=⟨_,rfl⟩
                  have n0_:X (w43.heap[gb101]? = some (.cells #[.slice (some ad102) l0_0.length c0_0,.slice A0_1 l0_1.length c0_1,.int .i64 a0_2,.int .i64 a0_3] 45 (0,0))):=⟨by rewrite[e_];exact far5 BK101.out NB101_103.out⟩
                  have n1_:X (w43.heap[gb103]? = some (.cells #[.string ((kw l0_0 x38_2).f0),.slice A102_1 ((kw l0_0 x38_2).f1).length c102_1,.slice A102_2 ((kw l0_0 x38_2).f2).length c102_2,.slice A102_3 ((kw l0_0 x38_2).f3).length c102_3,.slice A102_4 ((kw l0_0 x38_2).f4).length c102_4] 77 (0,0))):=⟨by rewrite[e_];exact put5 BK103.out⟩
                  have n2_:X (Below w.heap.size w w43):=⟨by rewrite[e_];repeat(first|(with_reducible first|exact HB.out|apply O|apply U|apply L|refine qq ?_ GE101.out|refine qq ?_ GE103.out)|exact HB.out)⟩
                  (try clear BK101)
                  (try clear BK103)
                  (try clear HB)
                  rewrite[←e_]
                  clear e_
                  have BK101:=n0_
                  have BK103:=n1_
                  have HB:=n2_
                  clear n0_ n1_ n2_
                  have p105 : 0≤((ji27):Int):=of_decide_eq_true (by assumption)
                  have q105:(ji27) < (l0_0.length:Int):=of_decide_eq_true (by assumption)
                  obtain⟨ad105,A105_1,c105_1,A105_2,c105_2,A105_3,c105_3,A105_4,c105_4,e105,hx105_0,hx105_1,hx105_2,hx105_3,hx105_4,hl105_1,hi105_1,hl105_2,hi105_2,hl105_3,hi105_3,hl105_4,hi105_4⟩:=at_T77 HR0_0.out (ji27) p105 q105
                  have hw105_4:=hx105_4
                  have hw105_3:=hx105_3
                  have hw105_2:=hx105_2
                  have hw105_1:=hx105_1
                  have hw105_0:=hx105_0
                  obtain rfl:ad102=ad105:=(by injection e105)
                  replace hx105_0:=(HB.out.cell (World.block_lt_of_cell? w _ hx105_0)).trans hx105_0
                  replace hx105_1:=(HB.out.cell (World.block_lt_of_cell? w _ hx105_1)).trans hx105_1
                  replace hx105_2:=(HB.out.cell (World.block_lt_of_cell? w _ hx105_2)).trans hx105_2
                  replace hx105_3:=(HB.out.cell (World.block_lt_of_cell? w _ hx105_3)).trans hx105_3
                  replace hx105_4:=(HB.out.cell (World.block_lt_of_cell? w _ hx105_4)).trans hx105_4
                  have HR105_1:=X.mk hi105_1
                  have HC105_1:=X.mk hl105_1
                  clear hi105_1 hl105_1
                  have HR105_2:=X.mk hi105_2
                  have HC105_2:=X.mk hl105_2
                  clear hi105_2 hl105_2
                  have HR105_3:=X.mk hi105_3
                  have HC105_3:=X.mk hl105_3
                  clear hi105_3 hl105_3
                  have HR105_4:=X.mk hi105_4
                  have HC105_4:=X.mk hl105_4
                  clear hi105_4 hl105_4
                  replace p105:=eq_true p105
                  replace q105:=eq_true q105
                  have hS_:=(show(fun w'=>w'.cell? ⟨gb103,0,none⟩ = some (.string ((kw l0_0 x38_2).f0))∧w'.cell? ⟨gb103,1,none⟩ = some (.slice A102_1 ((kw l0_0 x38_2).f1).length c102_1)∧w'.cell? ⟨gb103,2,none⟩ = some (.slice A102_2 ((kw l0_0 x38_2).f2).length c102_2)∧w'.cell? ⟨gb103,3,none⟩ = some (.slice A102_3 ((kw l0_0 x38_2).f3).length c102_3)∧w'.cell? ⟨gb103,4,none⟩ = some (.slice A102_4 ((kw l0_0 x38_2).f4).length c102_4)∧w'.cell? ⟨gb101,0,none⟩ = some (.slice (some ad102) l0_0.length c0_0)∧w'.cell? ⟨gb101,1,none⟩ = some (.slice A0_1 l0_1.length c0_1)∧w'.cell? ⟨gb101,2,none⟩ = some (.int .i64 a0_2)∧w'.cell? ⟨gb101,3,none⟩ = some (.int .i64 a0_3)∧w'.cell? (ad102.add (((ji27)).toNat * 5))=some (.string ((kw l0_0 (ji27)).f0))∧w'.cell? ⟨(ad102.add (((ji27)).toNat * 5)).block,(ad102.add (((ji27)).toNat * 5)).off + 1,none⟩ = some (.slice A105_1 ((kw l0_0 (ji27)).f1).length c105_1)∧w'.cell? ⟨(ad102.add (((ji27)).toNat * 5)).block,(ad102.add (((ji27)).toNat * 5)).off + 2,none⟩ = some (.slice A105_2 ((kw l0_0 (ji27)).f2).length c105_2)∧w'.cell? ⟨(ad102.add (((ji27)).toNat * 5)).block,(ad102.add (((ji27)).toNat * 5)).off + 3,none⟩ = some (.slice A105_3 ((kw l0_0 (ji27)).f3).length c105_3)∧w'.cell? ⟨(ad102.add (((ji27)).toNat * 5)).block,(ad102.add (((ji27)).toNat * 5)).off + 4,none⟩ = some (.slice A105_4 ((kw l0_0 (ji27)).f4).length c105_4)) (w43) from⟨(I BK103.out 0).trans rfl,(I BK103.out 1).trans rfl,(I BK103.out 2).trans rfl,(I BK103.out 3).trans rfl,(I BK103.out 4).trans rfl,(I BK101.out 0).trans rfl,(I BK101.out 1).trans rfl,(I BK101.out 2).trans rfl,(I BK101.out 3).trans rfl,((HB.out.cell (World.block_lt_of_cell? w _ hw105_0)).trans hw105_0),((HB.out.cell (World.block_lt_of_cell? w _ hw105_1)).trans hw105_1),((HB.out.cell (World.block_lt_of_cell? w _ hw105_2)).trans hw105_2),((HB.out.cell (World.block_lt_of_cell? w _ hw105_3)).trans hw105_3),((HB.out.cell (World.block_lt_of_cell? w _ hw105_4)).trans hw105_4)⟩)
                  obtain⟨hS0_,hS1_,hS2_,hS3_,hS4_,hS5_,hS6_,hS7_,hS8_,hS9_,hS10_,hS11_,hS12_,hS13_⟩:=hS_
                  go_quiet ((first|(go_at_call 40;exact Calls.quiet_of ((xw.calls k2 ((kw l0_0 x38_2).f0) true _ A24.out).mono fun _ _ h=>⟨h.1,h.2.out⟩))))
                  clear hS0_ hS1_ hS2_ hS3_ hS4_ hS5_ hS6_ hS7_ hS8_ hS9_ hS10_ hS11_ hS12_ hS13_
                  replace BK101:=X.mk (qj BK101.out nq)
                  replace BK103:=X.mk (qj BK103.out nq)
                  replace HB:=X.mk (U HB.out nq)
                  replace hx105_0:(World.drewN w43 nq).cell? _=_:=hx105_0
                  replace hx105_1:(World.drewN w43 nq).cell? _=_:=hx105_1
                  replace hx105_2:(World.drewN w43 nq).cell? _=_:=hx105_2
                  replace hx105_3:(World.drewN w43 nq).cell? _=_:=hx105_3
                  replace hx105_4:(World.drewN w43 nq).cell? _=_:=hx105_4
                  generalize World.drewN w43 nq=w44 at BK101 BK103 HB HR105_1 HR105_2 HR105_3 HR105_4 hx105_0 hx105_1 hx105_2 hx105_3 hx105_4 ⊢
                  try go_wp2
                  go_meet
                  case rel=>exact⟨_,(true),(by first|rfl|(simp;done)|(simp[*];done)),H',⟨by have:=HJ1.out;have:=HK2.out;first|omega|exact Nat.le_refl _⟩,⟨by(with_reducible repeat(first|refine qj ?_ _|refine qk ?_|refine qz ?_ _));exact BK101.out⟩,⟨by(with_reducible repeat(first|refine qj ?_ _|refine qk ?_|refine qz ?_ _));exact BK103.out⟩,⟨by repeat(first|(with_reducible first|exact HB.out|apply O|apply U|apply L|refine qq ?_ GE101.out|refine qq ?_ GE103.out)|exact HB.out)⟩⟩
                 ·rw[if_neg c42] at H
                  have c42b0:decide (5 < (((kw l0_0 x38_2).f2).length:Int))=false:=decide_eq_false c42
                  have c42b1:decide (5 < ((kw l0_0 x38_2).f2).length)=false:=decide_eq_false (by omega)
                  clear c42
                  replace H:=jq8.mp H
                  obtain⟨t107,A450,H⟩:=H
                  try dsimp only at H
                  have A45:=X.mk A450
                  clear A450
                  by_cases c46:t107=true
                  ·subst c46
                   have H1:(wk.j2 k2 l0_0 (l0_0.length:Int) x38_2 (decide ((((kw l0_0 x38_2).f4).length:Int) > 4)) l0_0 l0_1 a0_2 a0_3 ((kw l0_0 x38_2).f0) ((kw l0_0 x38_2).f1) ((kw l0_0 x38_2).f2) ((kw l0_0 x38_2).f3) ((kw l0_0 x38_2).f4))=some r:=by rw[if_pos rfl] at H;exact H
                   clear H
                   have H:=H1
                   clear H1
                   have H':=X.mk H
                   clear H
                   try go_wp2
                   obtain⟨w47,e_⟩:∃ v_,v_=(((((w21.setCell ⟨gb103,0,none⟩ (.string ((kw l0_0 x38_2).f0))).setCell ⟨gb103,1,none⟩ (.slice A102_1 ((kw l0_0 x38_2).f1).length c102_1)).setCell ⟨gb103,2,none⟩ (.slice A102_2 ((kw l0_0 x38_2).f2).length c102_2)).setCell ⟨gb103,3,none⟩ (.slice A102_3 ((kw l0_0 x38_2).f3).length c102_3)).setCell ⟨gb103,4,none⟩ (.slice A102_4 ((kw l0_0 x38_2).f4).length c102_4)):=⟨_,rfl⟩
                   have n0_:X (w47.heap[gb101]? = some (.cells #[.slice (some ad102) l0_0.length c0_0,.slice A0_1 l0_1.length c0_1,.int .i64 a0_2,.int .i64 a0_3] 45 (0,0))):=⟨by rewrite[e_];exact far5 BK101.out NB101_103.out⟩
                   have n1_:X (w47.heap[gb103]? = some (.cells #[.string ((kw l0_0 x38_2).f0),.slice A102_1 ((kw l0_0 x38_2).f1).length c102_1,.slice A102_2 ((kw l0_0 x38_2).f2).length c102_2,.slice A102_3 ((kw l0_0 x38_2).f3).length c102_3,.slice A102_4 ((kw l0_0 x38_2).f4).length c102_4] 77 (0,0))):=⟨by rewrite[e_];exact put5 BK103.out⟩
                   have n2_:X (Below w.heap.size w w47):=⟨by rewrite[e_];repeat(first|(with_reducible first|exact HB.out|apply O|apply U|apply L|refine qq ?_ GE101.out|refine qq ?_ GE103.out)|exact HB.out)⟩
                   (try clear BK101)
                   (try clear BK103)
                   (try clear HB)
                   rewrite[←e_]
                   clear e_
                   have BK101:=n0_
                   have BK103:=n1_
                   have HB:=n2_
                   clear n0_ n1_ n2_
                   have p105 : 0≤((ji27):Int):=of_decide_eq_true (by assumption)
                   have q105:(ji27) < (l0_0.length:Int):=of_decide_eq_true (by assumption)
                   obtain⟨ad105,A105_1,c105_1,A105_2,c105_2,A105_3,c105_3,A105_4,c105_4,e105,hx105_0,hx105_1,hx105_2,hx105_3,hx105_4,hl105_1,hi105_1,hl105_2,hi105_2,hl105_3,hi105_3,hl105_4,hi105_4⟩:=at_T77 HR0_0.out (ji27) p105 q105
                   have hw105_4:=hx105_4
                   have hw105_3:=hx105_3
                   have hw105_2:=hx105_2
                   have hw105_1:=hx105_1
                   have hw105_0:=hx105_0
                   obtain rfl:ad102=ad105:=(by injection e105)
                   replace hx105_0:=(HB.out.cell (World.block_lt_of_cell? w _ hx105_0)).trans hx105_0
                   replace hx105_1:=(HB.out.cell (World.block_lt_of_cell? w _ hx105_1)).trans hx105_1
                   replace hx105_2:=(HB.out.cell (World.block_lt_of_cell? w _ hx105_2)).trans hx105_2
                   replace hx105_3:=(HB.out.cell (World.block_lt_of_cell? w _ hx105_3)).trans hx105_3
                   replace hx105_4:=(HB.out.cell (World.block_lt_of_cell? w _ hx105_4)).trans hx105_4
                   have HR105_1:=X.mk hi105_1
                   have HC105_1:=X.mk hl105_1
                   clear hi105_1 hl105_1
                   have HR105_2:=X.mk hi105_2
                   have HC105_2:=X.mk hl105_2
                   clear hi105_2 hl105_2
                   have HR105_3:=X.mk hi105_3
                   have HC105_3:=X.mk hl105_3
                   clear hi105_3 hl105_3
                   have HR105_4:=X.mk hi105_4
                   have HC105_4:=X.mk hl105_4
                   clear hi105_4 hl105_4
                   replace p105:=eq_true p105
                   replace q105:=eq_true q105
                   have hS_:=(show(fun w'=>w'.cell? ⟨gb103,0,none⟩ = some (.string ((kw l0_0 x38_2).f0))∧w'.cell? ⟨gb103,1,none⟩ = some (.slice A102_1 ((kw l0_0 x38_2).f1).length c102_1)∧w'.cell? ⟨gb103,2,none⟩ = some (.slice A102_2 ((kw l0_0 x38_2).f2).length c102_2)∧w'.cell? ⟨gb103,3,none⟩ = some (.slice A102_3 ((kw l0_0 x38_2).f3).length c102_3)∧w'.cell? ⟨gb103,4,none⟩ = some (.slice A102_4 ((kw l0_0 x38_2).f4).length c102_4)∧w'.cell? ⟨gb101,0,none⟩ = some (.slice (some ad102) l0_0.length c0_0)∧w'.cell? ⟨gb101,1,none⟩ = some (.slice A0_1 l0_1.length c0_1)∧w'.cell? ⟨gb101,2,none⟩ = some (.int .i64 a0_2)∧w'.cell? ⟨gb101,3,none⟩ = some (.int .i64 a0_3)∧w'.cell? (ad102.add (((ji27)).toNat * 5))=some (.string ((kw l0_0 (ji27)).f0))∧w'.cell? ⟨(ad102.add (((ji27)).toNat * 5)).block,(ad102.add (((ji27)).toNat * 5)).off + 1,none⟩ = some (.slice A105_1 ((kw l0_0 (ji27)).f1).length c105_1)∧w'.cell? ⟨(ad102.add (((ji27)).toNat * 5)).block,(ad102.add (((ji27)).toNat * 5)).off + 2,none⟩ = some (.slice A105_2 ((kw l0_0 (ji27)).f2).length c105_2)∧w'.cell? ⟨(ad102.add (((ji27)).toNat * 5)).block,(ad102.add (((ji27)).toNat * 5)).off + 3,none⟩ = some (.slice A105_3 ((kw l0_0 (ji27)).f3).length c105_3)∧w'.cell? ⟨(ad102.add (((ji27)).toNat * 5)).block,(ad102.add (((ji27)).toNat * 5)).off + 4,none⟩ = some (.slice A105_4 ((kw l0_0 (ji27)).f4).length c105_4)) (w47) from⟨(I BK103.out 0).trans rfl,(I BK103.out 1).trans rfl,(I BK103.out 2).trans rfl,(I BK103.out 3).trans rfl,(I BK103.out 4).trans rfl,(I BK101.out 0).trans rfl,(I BK101.out 1).trans rfl,(I BK101.out 2).trans rfl,(I BK101.out 3).trans rfl,((HB.out.cell (World.block_lt_of_cell? w _ hw105_0)).trans hw105_0),((HB.out.cell (World.block_lt_of_cell? w _ hw105_1)).trans hw105_1),((HB.out.cell (World.block_lt_of_cell? w _ hw105_2)).trans hw105_2),((HB.out.cell (World.block_lt_of_cell? w _ hw105_3)).trans hw105_3),((HB.out.cell (World.block_lt_of_cell? w _ hw105_4)).trans hw105_4)⟩)
                   obtain⟨hS0_,hS1_,hS2_,hS3_,hS4_,hS5_,hS6_,hS7_,hS8_,hS9_,hS10_,hS11_,hS12_,hS13_⟩:=hS_
                   go_quiet ((first|(go_at_call 40;exact Calls.quiet_of ((xw.calls k2 ((kw l0_0 x38_2).f0) true _ A24.out).mono fun _ _ h=>⟨h.1,h.2.out⟩))|(go_at_call 47;exact Calls.quiet_of ((xv.calls k2 _ _ ((kw l0_0 x38_2).f3) true _ (by repeat(first|exact(Kd.C_below HR102_3.out (by solve_by_elim (maxDepth:=20) only[HB.out,O,U,L,qq,GE101.out,qq,GE103.out]))|(with_reducible refine Kd.C_alloc ?_ _)|(with_reducible refine Kd.C_drewN ?_ _)|(with_reducible refine Kd.C_drew ?_))) (by exact HC102_3.out) A45.out).mono fun _ _ h=>⟨h.1,h.2.out⟩))))
                   clear hS0_ hS1_ hS2_ hS3_ hS4_ hS5_ hS6_ hS7_ hS8_ hS9_ hS10_ hS11_ hS12_ hS13_
                   replace BK101:=X.mk (qj BK101.out nq)
                   replace BK103:=X.mk (qj BK103.out nq)
                   replace HB:=X.mk (U HB.out nq)
                   replace hx105_0:(World.drewN w47 nq).cell? _=_:=hx105_0
                   replace hx105_1:(World.drewN w47 nq).cell? _=_:=hx105_1
                   replace hx105_2:(World.drewN w47 nq).cell? _=_:=hx105_2
                   replace hx105_3:(World.drewN w47 nq).cell? _=_:=hx105_3
                   replace hx105_4:(World.drewN w47 nq).cell? _=_:=hx105_4
                   generalize World.drewN w47 nq=w48 at BK101 BK103 HB HR105_1 HR105_2 HR105_3 HR105_4 hx105_0 hx105_1 hx105_2 hx105_3 hx105_4 ⊢
                   try go_wp2
                   go_meet
                   case rel=>exact⟨_,(decide ((((kw l0_0 x38_2).f4).length:Int) > 4)),(by first|rfl|(simp;done)|(simp[*];done)),H',⟨by have:=HJ1.out;have:=HK2.out;first|omega|exact Nat.le_refl _⟩,⟨by(with_reducible repeat(first|refine qj ?_ _|refine qk ?_|refine qz ?_ _));exact BK101.out⟩,⟨by(with_reducible repeat(first|refine qj ?_ _|refine qk ?_|refine qz ?_ _));exact BK103.out⟩,⟨by repeat(first|(with_reducible first|exact HB.out|apply O|apply U|apply L|refine qq ?_ GE101.out|refine qq ?_ GE103.out)|exact HB.out)⟩⟩
                  ·replace c46:=jq9.mpr c46
                   subst c46
                   have H1:(wk.j2 k2 l0_0 (l0_0.length:Int) x38_2 true l0_0 l0_1 a0_2 a0_3 ((kw l0_0 x38_2).f0) ((kw l0_0 x38_2).f1) ((kw l0_0 x38_2).f2) ((kw l0_0 x38_2).f3) ((kw l0_0 x38_2).f4))=some r:=by rw[if_neg (show ¬ (false=true) by decide)] at H;exact H
                   clear H
                   have H:=H1
                   clear H1
                   have H':=X.mk H
                   clear H
                   try go_wp2
                   obtain⟨w49,e_⟩:∃ v_,v_=(((((w21.setCell ⟨gb103,0,none⟩ (.string ((kw l0_0 x38_2).f0))).setCell ⟨gb103,1,none⟩ (.slice A102_1 ((kw l0_0 x38_2).f1).length c102_1)).setCell ⟨gb103,2,none⟩ (.slice A102_2 ((kw l0_0 x38_2).f2).length c102_2)).setCell ⟨gb103,3,none⟩ (.slice A102_3 ((kw l0_0 x38_2).f3).length c102_3)).setCell ⟨gb103,4,none⟩ (.slice A102_4 ((kw l0_0 x38_2).f4).length c102_4)):=⟨_,rfl⟩
                   have n0_:X (w49.heap[gb101]? = some (.cells #[.slice (some ad102) l0_0.length c0_0,.slice A0_1 l0_1.length c0_1,.int .i64 a0_2,.int .i64 a0_3] 45 (0,0))):=⟨by rewrite[e_];exact far5 BK101.out NB101_103.out⟩
                   have n1_:X (w49.heap[gb103]? = some (.cells #[.string ((kw l0_0 x38_2).f0),.slice A102_1 ((kw l0_0 x38_2).f1).length c102_1,.slice A102_2 ((kw l0_0 x38_2).f2).length c102_2,.slice A102_3 ((kw l0_0 x38_2).f3).length c102_3,.slice A102_4 ((kw l0_0 x38_2).f4).length c102_4] 77 (0,0))):=⟨by rewrite[e_];exact put5 BK103.out⟩
                   have n2_:X (Below w.heap.size w w49):=⟨by rewrite[e_];repeat(first|(with_reducible first|exact HB.out|apply O|apply U|apply L|refine qq ?_ GE101.out|refine qq ?_ GE103.out)|exact HB.out)⟩
                   (try clear BK101)
                   (try clear BK103)
                   (try clear HB)
                   rewrite[←e_]
                   clear e_
                   have BK101:=n0_
                   have BK103:=n1_
                   have HB:=n2_
                   clear n0_ n1_ n2_
                   have p105 : 0≤((ji27):Int):=of_decide_eq_true (by assumption)
                   have q105:(ji27) < (l0_0.length:Int):=of_decide_eq_true (by assumption)
                   obtain⟨ad105,A105_1,c105_1,A105_2,c105_2,A105_3,c105_3,A105_4,c105_4,e105,hx105_0,hx105_1,hx105_2,hx105_3,hx105_4,hl105_1,hi105_1,hl105_2,hi105_2,hl105_3,hi105_3,hl105_4,hi105_4⟩:=at_T77 HR0_0.out (ji27) p105 q105
                   have hw105_4:=hx105_4
                   have hw105_3:=hx105_3
                   have hw105_2:=hx105_2
                   have hw105_1:=hx105_1
                   have hw105_0:=hx105_0
                   obtain rfl:ad102=ad105:=(by injection e105)
                   replace hx105_0:=(HB.out.cell (World.block_lt_of_cell? w _ hx105_0)).trans hx105_0
                   replace hx105_1:=(HB.out.cell (World.block_lt_of_cell? w _ hx105_1)).trans hx105_1
                   replace hx105_2:=(HB.out.cell (World.block_lt_of_cell? w _ hx105_2)).trans hx105_2
                   replace hx105_3:=(HB.out.cell (World.block_lt_of_cell? w _ hx105_3)).trans hx105_3
                   replace hx105_4:=(HB.out.cell (World.block_lt_of_cell? w _ hx105_4)).trans hx105_4
                   have HR105_1:=X.mk hi105_1
                   have HC105_1:=X.mk hl105_1
                   clear hi105_1 hl105_1
                   have HR105_2:=X.mk hi105_2
                   have HC105_2:=X.mk hl105_2
                   clear hi105_2 hl105_2
                   have HR105_3:=X.mk hi105_3
                   have HC105_3:=X.mk hl105_3
                   clear hi105_3 hl105_3
                   have HR105_4:=X.mk hi105_4
                   have HC105_4:=X.mk hl105_4
                   clear hi105_4 hl105_4
                   replace p105:=eq_true p105
                   replace q105:=eq_true q105
                   have hS_:=(show(fun w'=>w'.cell? ⟨gb103,0,none⟩ = some (.string ((kw l0_0 x38_2).f0))∧w'.cell? ⟨gb103,1,none⟩ = some (.slice A102_1 ((kw l0_0 x38_2).f1).length c102_1)∧w'.cell? ⟨gb103,2,none⟩ = some (.slice A102_2 ((kw l0_0 x38_2).f2).length c102_2)∧w'.cell? ⟨gb103,3,none⟩ = some (.slice A102_3 ((kw l0_0 x38_2).f3).length c102_3)∧w'.cell? ⟨gb103,4,none⟩ = some (.slice A102_4 ((kw l0_0 x38_2).f4).length c102_4)∧w'.cell? ⟨gb101,0,none⟩ = some (.slice (some ad102) l0_0.length c0_0)∧w'.cell? ⟨gb101,1,none⟩ = some (.slice A0_1 l0_1.length c0_1)∧w'.cell? ⟨gb101,2,none⟩ = some (.int .i64 a0_2)∧w'.cell? ⟨gb101,3,none⟩ = some (.int .i64 a0_3)∧w'.cell? (ad102.add (((ji27)).toNat * 5))=some (.string ((kw l0_0 (ji27)).f0))∧w'.cell? ⟨(ad102.add (((ji27)).toNat * 5)).block,(ad102.add (((ji27)).toNat * 5)).off + 1,none⟩ = some (.slice A105_1 ((kw l0_0 (ji27)).f1).length c105_1)∧w'.cell? ⟨(ad102.add (((ji27)).toNat * 5)).block,(ad102.add (((ji27)).toNat * 5)).off + 2,none⟩ = some (.slice A105_2 ((kw l0_0 (ji27)).f2).length c105_2)∧w'.cell? ⟨(ad102.add (((ji27)).toNat * 5)).block,(ad102.add (((ji27)).toNat * 5)).off + 3,none⟩ = some (.slice A105_3 ((kw l0_0 (ji27)).f3).length c105_3)∧w'.cell? ⟨(ad102.add (((ji27)).toNat * 5)).block,(ad102.add (((ji27)).toNat * 5)).off + 4,none⟩ = some (.slice A105_4 ((kw l0_0 (ji27)).f4).length c105_4)) (w49) from⟨(I BK103.out 0).trans rfl,(I BK103.out 1).trans rfl,(I BK103.out 2).trans rfl,(I BK103.out 3).trans rfl,(I BK103.out 4).trans rfl,(I BK101.out 0).trans rfl,(I BK101.out 1).trans rfl,(I BK101.out 2).trans rfl,(I BK101.out 3).trans rfl,((HB.out.cell (World.block_lt_of_cell? w _ hw105_0)).trans hw105_0),((HB.out.cell (World.block_lt_of_cell? w _ hw105_1)).trans hw105_1),((HB.out.cell (World.block_lt_of_cell? w _ hw105_2)).trans hw105_2),((HB.out.cell (World.block_lt_of_cell? w _ hw105_3)).trans hw105_3),((HB.out.cell (World.block_lt_of_cell? w _ hw105_4)).trans hw105_4)⟩)
                   obtain⟨hS0_,hS1_,hS2_,hS3_,hS4_,hS5_,hS6_,hS7_,hS8_,hS9_,hS10_,hS11_,hS12_,hS13_⟩:=hS_
                   go_quiet ((first|(go_at_call 40;exact Calls.quiet_of ((xw.calls k2 ((kw l0_0 x38_2).f0) true _ A24.out).mono fun _ _ h=>⟨h.1,h.2.out⟩))|(go_at_call 47;exact Calls.quiet_of ((xv.calls k2 _ _ ((kw l0_0 x38_2).f3) false _ (by repeat(first|exact(Kd.C_below HR102_3.out (by solve_by_elim (maxDepth:=20) only[HB.out,O,U,L,qq,GE101.out,qq,GE103.out]))|(with_reducible refine Kd.C_alloc ?_ _)|(with_reducible refine Kd.C_drewN ?_ _)|(with_reducible refine Kd.C_drew ?_))) (by exact HC102_3.out) A45.out).mono fun _ _ h=>⟨h.1,h.2.out⟩))))
                   clear hS0_ hS1_ hS2_ hS3_ hS4_ hS5_ hS6_ hS7_ hS8_ hS9_ hS10_ hS11_ hS12_ hS13_
                   replace BK101:=X.mk (qj BK101.out nq)
                   replace BK103:=X.mk (qj BK103.out nq)
                   replace HB:=X.mk (U HB.out nq)
                   replace hx105_0:(World.drewN w49 nq).cell? _=_:=hx105_0
                   replace hx105_1:(World.drewN w49 nq).cell? _=_:=hx105_1
                   replace hx105_2:(World.drewN w49 nq).cell? _=_:=hx105_2
                   replace hx105_3:(World.drewN w49 nq).cell? _=_:=hx105_3
                   replace hx105_4:(World.drewN w49 nq).cell? _=_:=hx105_4
                   generalize World.drewN w49 nq=w50 at BK101 BK103 HB HR105_1 HR105_2 HR105_3 HR105_4 hx105_0 hx105_1 hx105_2 hx105_3 hx105_4 ⊢
                   try go_wp2
                   go_meet
                   case rel=>exact⟨_,(true),(by first|rfl|(simp;done)|(simp[*];done)),H',⟨by have:=HJ1.out;have:=HK2.out;first|omega|exact Nat.le_refl _⟩,⟨by(with_reducible repeat(first|refine qj ?_ _|refine qk ?_|refine qz ?_ _));exact BK101.out⟩,⟨by(with_reducible repeat(first|refine qj ?_ _|refine qk ?_|refine qz ?_ _));exact BK103.out⟩,⟨by repeat(first|(with_reducible first|exact HB.out|apply O|apply U|apply L|refine qq ?_ GE101.out|refine qq ?_ GE103.out)|exact HB.out)⟩⟩
                ·rw[if_neg c41] at H
                 have c41b0:((((kw l0_0 x38_2).f1).length:Int) == 16)=false:=beq_eq_false_iff_ne.mpr c41
                 have c41b1:((((kw l0_0 x38_2).f1).length:Int) != 16)=true:=bne_iff_ne.mpr c41
                 have H':=X.mk H
                 clear H
                 try go_wp2
                 obtain⟨w51,e_⟩:∃ v_,v_=(((((w21.setCell ⟨gb103,0,none⟩ (.string ((kw l0_0 x38_2).f0))).setCell ⟨gb103,1,none⟩ (.slice A102_1 ((kw l0_0 x38_2).f1).length c102_1)).setCell ⟨gb103,2,none⟩ (.slice A102_2 ((kw l0_0 x38_2).f2).length c102_2)).setCell ⟨gb103,3,none⟩ (.slice A102_3 ((kw l0_0 x38_2).f3).length c102_3)).setCell ⟨gb103,4,none⟩ (.slice A102_4 ((kw l0_0 x38_2).f4).length c102_4)):=⟨_,rfl⟩
                 have n0_:X (w51.heap[gb101]? = some (.cells #[.slice (some ad102) l0_0.length c0_0,.slice A0_1 l0_1.length c0_1,.int .i64 a0_2,.int .i64 a0_3] 45 (0,0))):=⟨by rewrite[e_];exact far5 BK101.out NB101_103.out⟩
                 have n1_:X (w51.heap[gb103]? = some (.cells #[.string ((kw l0_0 x38_2).f0),.slice A102_1 ((kw l0_0 x38_2).f1).length c102_1,.slice A102_2 ((kw l0_0 x38_2).f2).length c102_2,.slice A102_3 ((kw l0_0 x38_2).f3).length c102_3,.slice A102_4 ((kw l0_0 x38_2).f4).length c102_4] 77 (0,0))):=⟨by rewrite[e_];exact put5 BK103.out⟩
                 have n2_:X (Below w.heap.size w w51):=⟨by rewrite[e_];repeat(first|(with_reducible first|exact HB.out|apply O|apply U|apply L|refine qq ?_ GE101.out|refine qq ?_ GE103.out)|exact HB.out)⟩
                 (try clear BK101)
                 (try clear BK103)
                 (try clear HB)
                 rewrite[←e_]
                 clear e_
                 have BK101:=n0_
                 have BK103:=n1_
                 have HB:=n2_
                 clear n0_ n1_ n2_
                 have p105 : 0≤((ji27):Int):=of_decide_eq_true (by assumption)
                 have q105:(ji27) < (l0_0.length:Int):=of_decide_eq_true (by assumption)
                 obtain⟨ad105,A105_1,c105_1,A105_2,c105_2,A105_3,c105_3,A105_4,c105_4,e105,hx105_0,hx105_1,hx105_2,hx105_3,hx105_4,hl105_1,hi105_1,hl105_2,hi105_2,hl105_3,hi105_3,hl105_4,hi105_4⟩:=at_T77 HR0_0.out (ji27) p105 q105
                 have hw105_4:=hx105_4
                 have hw105_3:=hx105_3
                 have hw105_2:=hx105_2
                 have hw105_1:=hx105_1
                 have hw105_0:=hx105_0
                 obtain rfl:ad102=ad105:=(by injection e105)
                 replace hx105_0:=(HB.out.cell (World.block_lt_of_cell? w _ hx105_0)).trans hx105_0
                 replace hx105_1:=(HB.out.cell (World.block_lt_of_cell? w _ hx105_1)).trans hx105_1
                 replace hx105_2:=(HB.out.cell (World.block_lt_of_cell? w _ hx105_2)).trans hx105_2
                 replace hx105_3:=(HB.out.cell (World.block_lt_of_cell? w _ hx105_3)).trans hx105_3
                 replace hx105_4:=(HB.out.cell (World.block_lt_of_cell? w _ hx105_4)).trans hx105_4
                 have HR105_1:=X.mk hi105_1
                 have HC105_1:=X.mk hl105_1
                 clear hi105_1 hl105_1
                 have HR105_2:=X.mk hi105_2
                 have HC105_2:=X.mk hl105_2
                 clear hi105_2 hl105_2
                 have HR105_3:=X.mk hi105_3
                 have HC105_3:=X.mk hl105_3
                 clear hi105_3 hl105_3
                 have HR105_4:=X.mk hi105_4
                 have HC105_4:=X.mk hl105_4
                 clear hi105_4 hl105_4
                 replace p105:=eq_true p105
                 replace q105:=eq_true q105
                 have hS_:=(show(fun w'=>w'.cell? ⟨gb103,0,none⟩ = some (.string ((kw l0_0 x38_2).f0))∧w'.cell? ⟨gb103,1,none⟩ = some (.slice A102_1 ((kw l0_0 x38_2).f1).length c102_1)∧w'.cell? ⟨gb103,2,none⟩ = some (.slice A102_2 ((kw l0_0 x38_2).f2).length c102_2)∧w'.cell? ⟨gb103,3,none⟩ = some (.slice A102_3 ((kw l0_0 x38_2).f3).length c102_3)∧w'.cell? ⟨gb103,4,none⟩ = some (.slice A102_4 ((kw l0_0 x38_2).f4).length c102_4)∧w'.cell? ⟨gb101,0,none⟩ = some (.slice (some ad102) l0_0.length c0_0)∧w'.cell? ⟨gb101,1,none⟩ = some (.slice A0_1 l0_1.length c0_1)∧w'.cell? ⟨gb101,2,none⟩ = some (.int .i64 a0_2)∧w'.cell? ⟨gb101,3,none⟩ = some (.int .i64 a0_3)∧w'.cell? (ad102.add (((ji27)).toNat * 5))=some (.string ((kw l0_0 (ji27)).f0))∧w'.cell? ⟨(ad102.add (((ji27)).toNat * 5)).block,(ad102.add (((ji27)).toNat * 5)).off + 1,none⟩ = some (.slice A105_1 ((kw l0_0 (ji27)).f1).length c105_1)∧w'.cell? ⟨(ad102.add (((ji27)).toNat * 5)).block,(ad102.add (((ji27)).toNat * 5)).off + 2,none⟩ = some (.slice A105_2 ((kw l0_0 (ji27)).f2).length c105_2)∧w'.cell? ⟨(ad102.add (((ji27)).toNat * 5)).block,(ad102.add (((ji27)).toNat * 5)).off + 3,none⟩ = some (.slice A105_3 ((kw l0_0 (ji27)).f3).length c105_3)∧w'.cell? ⟨(ad102.add (((ji27)).toNat * 5)).block,(ad102.add (((ji27)).toNat * 5)).off + 4,none⟩ = some (.slice A105_4 ((kw l0_0 (ji27)).f4).length c105_4)) (w51) from⟨(I BK103.out 0).trans rfl,(I BK103.out 1).trans rfl,(I BK103.out 2).trans rfl,(I BK103.out 3).trans rfl,(I BK103.out 4).trans rfl,(I BK101.out 0).trans rfl,(I BK101.out 1).trans rfl,(I BK101.out 2).trans rfl,(I BK101.out 3).trans rfl,((HB.out.cell (World.block_lt_of_cell? w _ hw105_0)).trans hw105_0),((HB.out.cell (World.block_lt_of_cell? w _ hw105_1)).trans hw105_1),((HB.out.cell (World.block_lt_of_cell? w _ hw105_2)).trans hw105_2),((HB.out.cell (World.block_lt_of_cell? w _ hw105_3)).trans hw105_3),((HB.out.cell (World.block_lt_of_cell? w _ hw105_4)).trans hw105_4)⟩)
                 obtain⟨hS0_,hS1_,hS2_,hS3_,hS4_,hS5_,hS6_,hS7_,hS8_,hS9_,hS10_,hS11_,hS12_,hS13_⟩:=hS_
                 go_quiet ((first|(go_at_call 40;exact Calls.quiet_of ((xw.calls k2 ((kw l0_0 x38_2).f0) true _ A24.out).mono fun _ _ h=>⟨h.1,h.2.out⟩))))
                 clear hS0_ hS1_ hS2_ hS3_ hS4_ hS5_ hS6_ hS7_ hS8_ hS9_ hS10_ hS11_ hS12_ hS13_
                 replace BK101:=X.mk (qj BK101.out nq)
                 replace BK103:=X.mk (qj BK103.out nq)
                 replace HB:=X.mk (U HB.out nq)
                 replace hx105_0:(World.drewN w51 nq).cell? _=_:=hx105_0
                 replace hx105_1:(World.drewN w51 nq).cell? _=_:=hx105_1
                 replace hx105_2:(World.drewN w51 nq).cell? _=_:=hx105_2
                 replace hx105_3:(World.drewN w51 nq).cell? _=_:=hx105_3
                 replace hx105_4:(World.drewN w51 nq).cell? _=_:=hx105_4
                 generalize World.drewN w51 nq=w52 at BK101 BK103 HB HR105_1 HR105_2 HR105_3 HR105_4 hx105_0 hx105_1 hx105_2 hx105_3 hx105_4 ⊢
                 try go_wp2
                 go_meet
                 case rel=>exact⟨_,(true),(by first|rfl|(simp;done)|(simp[*];done)),H',⟨by have:=HJ1.out;have:=HK2.out;first|omega|exact Nat.le_refl _⟩,⟨by(with_reducible repeat(first|refine qj ?_ _|refine qk ?_|refine qz ?_ _));exact BK101.out⟩,⟨by(with_reducible repeat(first|refine qj ?_ _|refine qk ?_|refine qz ?_ _));exact BK103.out⟩,⟨by repeat(first|(with_reducible first|exact HB.out|apply O|apply U|apply L|refine qq ?_ GE101.out|refine qq ?_ GE103.out)|exact HB.out)⟩⟩
              ·rw[if_neg c30] at H
               have c30b0:(Op.bytesLess (((kw l0_0 (ji27)).f0).toList) (((kw l0_0 x38_2).f0).toList))=false:=by simpa using c30
               clear c30
               have H':=X.mk H
               clear H
               try go_wp2
               obtain⟨w53,e_⟩:∃ v_,v_=(((((w21.setCell ⟨gb103,0,none⟩ (.string ((kw l0_0 x38_2).f0))).setCell ⟨gb103,1,none⟩ (.slice A102_1 ((kw l0_0 x38_2).f1).length c102_1)).setCell ⟨gb103,2,none⟩ (.slice A102_2 ((kw l0_0 x38_2).f2).length c102_2)).setCell ⟨gb103,3,none⟩ (.slice A102_3 ((kw l0_0 x38_2).f3).length c102_3)).setCell ⟨gb103,4,none⟩ (.slice A102_4 ((kw l0_0 x38_2).f4).length c102_4)):=⟨_,rfl⟩
               have n0_:X (w53.heap[gb101]? = some (.cells #[.slice (some ad102) l0_0.length c0_0,.slice A0_1 l0_1.length c0_1,.int .i64 a0_2,.int .i64 a0_3] 45 (0,0))):=⟨by rewrite[e_];exact far5 BK101.out NB101_103.out⟩
               have n1_:X (w53.heap[gb103]? = some (.cells #[.string ((kw l0_0 x38_2).f0),.slice A102_1 ((kw l0_0 x38_2).f1).length c102_1,.slice A102_2 ((kw l0_0 x38_2).f2).length c102_2,.slice A102_3 ((kw l0_0 x38_2).f3).length c102_3,.slice A102_4 ((kw l0_0 x38_2).f4).length c102_4] 77 (0,0))):=⟨by rewrite[e_];exact put5 BK103.out⟩
               have n2_:X (Below w.heap.size w w53):=⟨by rewrite[e_];repeat(first|(with_reducible first|exact HB.out|apply O|apply U|apply L|refine qq ?_ GE101.out|refine qq ?_ GE103.out)|exact HB.out)⟩
               (try clear BK101)
               (try clear BK103)
               (try clear HB)
               rewrite[←e_]
               clear e_
               have BK101:=n0_
               have BK103:=n1_
               have HB:=n2_
               clear n0_ n1_ n2_
               have p105 : 0≤((ji27):Int):=of_decide_eq_true (by assumption)
               have q105:(ji27) < (l0_0.length:Int):=of_decide_eq_true (by assumption)
               obtain⟨ad105,A105_1,c105_1,A105_2,c105_2,A105_3,c105_3,A105_4,c105_4,e105,hx105_0,hx105_1,hx105_2,hx105_3,hx105_4,hl105_1,hi105_1,hl105_2,hi105_2,hl105_3,hi105_3,hl105_4,hi105_4⟩:=at_T77 HR0_0.out (ji27) p105 q105
               have hw105_4:=hx105_4
               have hw105_3:=hx105_3
               have hw105_2:=hx105_2
               have hw105_1:=hx105_1
               have hw105_0:=hx105_0
               obtain rfl:ad102=ad105:=(by injection e105)
               replace hx105_0:=(HB.out.cell (World.block_lt_of_cell? w _ hx105_0)).trans hx105_0
               replace hx105_1:=(HB.out.cell (World.block_lt_of_cell? w _ hx105_1)).trans hx105_1
               replace hx105_2:=(HB.out.cell (World.block_lt_of_cell? w _ hx105_2)).trans hx105_2
               replace hx105_3:=(HB.out.cell (World.block_lt_of_cell? w _ hx105_3)).trans hx105_3
               replace hx105_4:=(HB.out.cell (World.block_lt_of_cell? w _ hx105_4)).trans hx105_4
               have HR105_1:=X.mk hi105_1
               have HC105_1:=X.mk hl105_1
               clear hi105_1 hl105_1
               have HR105_2:=X.mk hi105_2
               have HC105_2:=X.mk hl105_2
               clear hi105_2 hl105_2
               have HR105_3:=X.mk hi105_3
               have HC105_3:=X.mk hl105_3
               clear hi105_3 hl105_3
               have HR105_4:=X.mk hi105_4
               have HC105_4:=X.mk hl105_4
               clear hi105_4 hl105_4
               replace p105:=eq_true p105
               replace q105:=eq_true q105
               have hS_:=(show(fun w'=>w'.cell? ⟨gb103,0,none⟩ = some (.string ((kw l0_0 x38_2).f0))∧w'.cell? ⟨gb103,1,none⟩ = some (.slice A102_1 ((kw l0_0 x38_2).f1).length c102_1)∧w'.cell? ⟨gb103,2,none⟩ = some (.slice A102_2 ((kw l0_0 x38_2).f2).length c102_2)∧w'.cell? ⟨gb103,3,none⟩ = some (.slice A102_3 ((kw l0_0 x38_2).f3).length c102_3)∧w'.cell? ⟨gb103,4,none⟩ = some (.slice A102_4 ((kw l0_0 x38_2).f4).length c102_4)∧w'.cell? ⟨gb101,0,none⟩ = some (.slice (some ad102) l0_0.length c0_0)∧w'.cell? ⟨gb101,1,none⟩ = some (.slice A0_1 l0_1.length c0_1)∧w'.cell? ⟨gb101,2,none⟩ = some (.int .i64 a0_2)∧w'.cell? ⟨gb101,3,none⟩ = some (.int .i64 a0_3)∧w'.cell? (ad102.add (((ji27)).toNat * 5))=some (.string ((kw l0_0 (ji27)).f0))∧w'.cell? ⟨(ad102.add (((ji27)).toNat * 5)).block,(ad102.add (((ji27)).toNat * 5)).off + 1,none⟩ = some (.slice A105_1 ((kw l0_0 (ji27)).f1).length c105_1)∧w'.cell? ⟨(ad102.add (((ji27)).toNat * 5)).block,(ad102.add (((ji27)).toNat * 5)).off + 2,none⟩ = some (.slice A105_2 ((kw l0_0 (ji27)).f2).length c105_2)∧w'.cell? ⟨(ad102.add (((ji27)).toNat * 5)).block,(ad102.add (((ji27)).toNat * 5)).off + 3,none⟩ = some (.slice A105_3 ((kw l0_0 (ji27)).f3).length c105_3)∧w'.cell? ⟨(ad102.add (((ji27)).toNat * 5)).block,(ad102.add (((ji27)).toNat * 5)).off + 4,none⟩ = some (.slice A105_4 ((kw l0_0 (ji27)).f4).length c105_4)) (w53) from⟨(I BK103.out 0).trans rfl,(I BK103.out 1).trans rfl,(I BK103.out 2).trans rfl,(I BK103.out 3).trans rfl,(I BK103.out 4).trans rfl,(I BK101.out 0).trans rfl,(I BK101.out 1).trans rfl,(I BK101.out 2).trans rfl,(I BK101.out 3).trans rfl,((HB.out.cell (World.block_lt_of_cell? w _ hw105_0)).trans hw105_0),((HB.out.cell (World.block_lt_of_cell? w _ hw105_1)).trans hw105_1),((HB.out.cell (World.block_lt_of_cell? w _ hw105_2)).trans hw105_2),((HB.out.cell (World.block_lt_of_cell? w _ hw105_3)).trans hw105_3),((HB.out.cell (World.block_lt_of_cell? w _ hw105_4)).trans hw105_4)⟩)
               obtain⟨hS0_,hS1_,hS2_,hS3_,hS4_,hS5_,hS6_,hS7_,hS8_,hS9_,hS10_,hS11_,hS12_,hS13_⟩:=hS_
               go_quiet ((first|(go_at_call 40;exact Calls.quiet_of ((xw.calls k2 ((kw l0_0 x38_2).f0) true _ A24.out).mono fun _ _ h=>⟨h.1,h.2.out⟩))))
               clear hS0_ hS1_ hS2_ hS3_ hS4_ hS5_ hS6_ hS7_ hS8_ hS9_ hS10_ hS11_ hS12_ hS13_
               replace BK101:=X.mk (qj BK101.out nq)
               replace BK103:=X.mk (qj BK103.out nq)
               replace HB:=X.mk (U HB.out nq)
               replace hx105_0:(World.drewN w53 nq).cell? _=_:=hx105_0
               replace hx105_1:(World.drewN w53 nq).cell? _=_:=hx105_1
               replace hx105_2:(World.drewN w53 nq).cell? _=_:=hx105_2
               replace hx105_3:(World.drewN w53 nq).cell? _=_:=hx105_3
               replace hx105_4:(World.drewN w53 nq).cell? _=_:=hx105_4
               generalize World.drewN w53 nq=w54 at BK101 BK103 HB HR105_1 HR105_2 HR105_3 HR105_4 hx105_0 hx105_1 hx105_2 hx105_3 hx105_4 ⊢
               try go_wp2
               go_meet
               case rel=>exact⟨_,(true),(by first|rfl|(simp;done)|(simp[*];done)),H',⟨by have:=HJ1.out;have:=HK2.out;first|omega|exact Nat.le_refl _⟩,⟨by(with_reducible repeat(first|refine qj ?_ _|refine qk ?_|refine qz ?_ _));exact BK101.out⟩,⟨by(with_reducible repeat(first|refine qj ?_ _|refine qk ?_|refine qz ?_ _));exact BK103.out⟩,⟨by repeat(first|(with_reducible first|exact HB.out|apply O|apply U|apply L|refine qq ?_ GE101.out|refine qq ?_ GE103.out)|exact HB.out)⟩⟩
             ·rw[if_neg c29] at H
              exact absurd H (by simp)
            ·rw[if_neg c28] at H
             exact absurd H (by simp)
           ·rw[if_neg c26] at H
            have c26b0:decide (0 < x38_2)=false:=decide_eq_false c26
            clear c26
            (first|rw[c26b0]|(simp only[i64_w,i32_w];rw[c26b0])|skip)
            by_cases c55:(((kw l0_0 x38_2).f1).length:Int)=0
            ·rw[if_pos c55] at H
             have c55b0:((((kw l0_0 x38_2).f1).length:Int) == 0)=true:=beq_iff_eq.mpr c55
             have c55b1:((((kw l0_0 x38_2).f1).length:Int) != 0)=false:=bne_eq_false_iff_eq.mpr c55
             clear c55
             by_cases c56:(((kw l0_0 x38_2).f2).length:Int) > 5
             ·rw[if_pos c56] at H
              have c56b0:decide (5 < (((kw l0_0 x38_2).f2).length:Int))=true:=decide_eq_true c56
              have c56b1:decide (5 < ((kw l0_0 x38_2).f2).length)=true:=decide_eq_true (by omega)
              clear c56
              have H':=X.mk H
              clear H
              try go_wp2
              obtain⟨w57,e_⟩:∃ v_,v_=(((((w21.setCell ⟨gb103,0,none⟩ (.string ((kw l0_0 x38_2).f0))).setCell ⟨gb103,1,none⟩ (.slice A102_1 ((kw l0_0 x38_2).f1).length c102_1)).setCell ⟨gb103,2,none⟩ (.slice A102_2 ((kw l0_0 x38_2).f2).length c102_2)).setCell ⟨gb103,3,none⟩ (.slice A102_3 ((kw l0_0 x38_2).f3).length c102_3)).setCell ⟨gb103,4,none⟩ (.slice A102_4 ((kw l0_0 x38_2).f4).length c102_4)):=⟨_,rfl⟩
              have n0_:X (w57.heap[gb101]? = some (.cells #[.slice (some ad102) l0_0.length c0_0,.slice A0_1 l0_1.length c0_1,.int .i64 a0_2,.int .i64 a0_3] 45 (0,0))):=⟨by rewrite[e_];exact far5 BK101.out NB101_103.out⟩
              have n1_:X (w57.heap[gb103]? = some (.cells #[.string ((kw l0_0 x38_2).f0),.slice A102_1 ((kw l0_0 x38_2).f1).length c102_1,.slice A102_2 ((kw l0_0 x38_2).f2).length c102_2,.slice A102_3 ((kw l0_0 x38_2).f3).length c102_3,.slice A102_4 ((kw l0_0 x38_2).f4).length c102_4] 77 (0,0))):=⟨by rewrite[e_];exact put5 BK103.out⟩
              have n2_:X (Below w.heap.size w w57):=⟨by rewrite[e_];repeat(first|(with_reducible first|exact HB.out|apply O|apply U|apply L|refine qq ?_ GE101.out|refine qq ?_ GE103.out)|exact HB.out)⟩
              (try clear BK101)
              (try clear BK103)
              (try clear HB)
              rewrite[←e_]
              clear e_
              have BK101:=n0_
              have BK103:=n1_
              have HB:=n2_
              clear n0_ n1_ n2_
              have hS_:=(show(fun w'=>w'.cell? ⟨gb103,0,none⟩ = some (.string ((kw l0_0 x38_2).f0))∧w'.cell? ⟨gb103,1,none⟩ = some (.slice A102_1 ((kw l0_0 x38_2).f1).length c102_1)∧w'.cell? ⟨gb103,2,none⟩ = some (.slice A102_2 ((kw l0_0 x38_2).f2).length c102_2)∧w'.cell? ⟨gb103,3,none⟩ = some (.slice A102_3 ((kw l0_0 x38_2).f3).length c102_3)∧w'.cell? ⟨gb103,4,none⟩ = some (.slice A102_4 ((kw l0_0 x38_2).f4).length c102_4)) (w57) from⟨(I BK103.out 0).trans rfl,(I BK103.out 1).trans rfl,(I BK103.out 2).trans rfl,(I BK103.out 3).trans rfl,(I BK103.out 4).trans rfl⟩)
              obtain⟨hS0_,hS1_,hS2_,hS3_,hS4_⟩:=hS_
              go_quiet ((first|(go_at_call 40;exact Calls.quiet_of ((xw.calls k2 ((kw l0_0 x38_2).f0) true _ A24.out).mono fun _ _ h=>⟨h.1,h.2.out⟩))))
              clear hS0_ hS1_ hS2_ hS3_ hS4_
              replace BK101:=X.mk (qj BK101.out nq)
              replace BK103:=X.mk (qj BK103.out nq)
              replace HB:=X.mk (U HB.out nq)
              generalize World.drewN w57 nq=w58 at BK101 BK103 HB ⊢
              try go_wp2
              go_meet
              case rel=>exact⟨_,(true),(by first|rfl|(simp;done)|(simp[*];done)),H',⟨by have:=HJ1.out;have:=HK2.out;first|omega|exact Nat.le_refl _⟩,⟨by(with_reducible repeat(first|refine qj ?_ _|refine qk ?_|refine qz ?_ _));exact BK101.out⟩,⟨by(with_reducible repeat(first|refine qj ?_ _|refine qk ?_|refine qz ?_ _));exact BK103.out⟩,⟨by repeat(first|(with_reducible first|exact HB.out|apply O|apply U|apply L|refine qq ?_ GE101.out|refine qq ?_ GE103.out)|exact HB.out)⟩⟩
             ·rw[if_neg c56] at H
              have c56b0:decide (5 < (((kw l0_0 x38_2).f2).length:Int))=false:=decide_eq_false c56
              have c56b1:decide (5 < ((kw l0_0 x38_2).f2).length)=false:=decide_eq_false (by omega)
              clear c56
              replace H:=jq8.mp H
              obtain⟨t108,A590,H⟩:=H
              try dsimp only at H
              have A59:=X.mk A590
              clear A590
              by_cases c60:t108=true
              ·subst c60
               have H1:(wk.j2 k2 l0_0 (l0_0.length:Int) x38_2 (decide ((((kw l0_0 x38_2).f4).length:Int) > 4)) l0_0 l0_1 a0_2 a0_3 ((kw l0_0 x38_2).f0) ((kw l0_0 x38_2).f1) ((kw l0_0 x38_2).f2) ((kw l0_0 x38_2).f3) ((kw l0_0 x38_2).f4))=some r:=by rw[if_pos rfl] at H;exact H
               clear H
               have H:=H1
               clear H1
               have H':=X.mk H
               clear H
               try go_wp2
               obtain⟨w61,e_⟩:∃ v_,v_=(((((w21.setCell ⟨gb103,0,none⟩ (.string ((kw l0_0 x38_2).f0))).setCell ⟨gb103,1,none⟩ (.slice A102_1 ((kw l0_0 x38_2).f1).length c102_1)).setCell ⟨gb103,2,none⟩ (.slice A102_2 ((kw l0_0 x38_2).f2).length c102_2)).setCell ⟨gb103,3,none⟩ (.slice A102_3 ((kw l0_0 x38_2).f3).length c102_3)).setCell ⟨gb103,4,none⟩ (.slice A102_4 ((kw l0_0 x38_2).f4).length c102_4)):=⟨_,rfl⟩
               have n0_:X (w61.heap[gb101]? = some (.cells #[.slice (some ad102) l0_0.length c0_0,.slice A0_1 l0_1.length c0_1,.int .i64 a0_2,.int .i64 a0_3] 45 (0,0))):=⟨by rewrite[e_];exact far5 BK101.out NB101_103.out⟩
               have n1_:X (w61.heap[gb103]? = some (.cells #[.string ((kw l0_0 x38_2).f0),.slice A102_1 ((kw l0_0 x38_2).f1).length c102_1,.slice A102_2 ((kw l0_0 x38_2).f2).length c102_2,.slice A102_3 ((kw l0_0 x38_2).f3).length c102_3,.slice A102_4 ((kw l0_0 x38_2).f4).length c102_4] 77 (0,0))):=⟨by rewrite[e_];exact put5 BK103.out⟩
               have n2_:X (Below w.heap.size w w61):=⟨by rewrite[e_];repeat(first|(with_reducible first|exact HB.out|apply O|apply U|apply L|refine qq ?_ GE101.out|refine qq ?_ GE103.out)|exact HB.out)⟩
               (try clear BK101)
               (try clear BK103)
               (try clear HB)
               rewrite[←e_]
               clear e_
               have BK101:=n0_
               have BK103:=n1_
               have HB:=n2_
               clear n0_ n1_ n2_
               have hS_:=(show(fun w'=>w'.cell? ⟨gb103,0,none⟩ = some (.string ((kw l0_0 x38_2).f0))∧w'.cell? ⟨gb103,1,none⟩ = some (.slice A102_1 ((kw l0_0 x38_2).f1).length c102_1)∧w'.cell? ⟨gb103,2,none⟩ = some (.slice A102_2 ((kw l0_0 x38_2).f2).length c102_2)∧w'.cell? ⟨gb103,3,none⟩ = some (.slice A102_3 ((kw l0_0 x38_2).f3).length c102_3)∧w'.cell? ⟨gb103,4,none⟩ = some (.slice A102_4 ((kw l0_0 x38_2).f4).length c102_4)) (w61) from⟨(I BK103.out 0).trans rfl,(I BK103.out 1).trans rfl,(I BK103.out 2).trans rfl,(I BK103.out 3).trans rfl,(I BK103.out 4).trans rfl⟩)
               obtain⟨hS0_,hS1_,hS2_,hS3_,hS4_⟩:=hS_
               go_quiet ((first|(go_at_call 40;exact Calls.quiet_of ((xw.calls k2 ((kw l0_0 x38_2).f0) true _ A24.out).mono fun _ _ h=>⟨h.1,h.2.out⟩))|(go_at_call 47;exact Calls.quiet_of ((xv.calls k2 _ _ ((kw l0_0 x38_2).f3) true _ (by repeat(first|exact(Kd.C_below HR102_3.out (by solve_by_elim (maxDepth:=20) only[HB.out,O,U,L,qq,GE101.out,qq,GE103.out]))|(with_reducible refine Kd.C_alloc ?_ _)|(with_reducible refine Kd.C_drewN ?_ _)|(with_reducible refine Kd.C_drew ?_))) (by exact HC102_3.out) A59.out).mono fun _ _ h=>⟨h.1,h.2.out⟩))))
               clear hS0_ hS1_ hS2_ hS3_ hS4_
               replace BK101:=X.mk (qj BK101.out nq)
               replace BK103:=X.mk (qj BK103.out nq)
               replace HB:=X.mk (U HB.out nq)
               generalize World.drewN w61 nq=w62 at BK101 BK103 HB ⊢
               try go_wp2
               go_meet
               case rel=>exact⟨_,(decide ((((kw l0_0 x38_2).f4).length:Int) > 4)),(by first|rfl|(simp;done)|(simp[*];done)),H',⟨by have:=HJ1.out;have:=HK2.out;first|omega|exact Nat.le_refl _⟩,⟨by(with_reducible repeat(first|refine qj ?_ _|refine qk ?_|refine qz ?_ _));exact BK101.out⟩,⟨by(with_reducible repeat(first|refine qj ?_ _|refine qk ?_|refine qz ?_ _));exact BK103.out⟩,⟨by repeat(first|(with_reducible first|exact HB.out|apply O|apply U|apply L|refine qq ?_ GE101.out|refine qq ?_ GE103.out)|exact HB.out)⟩⟩
              ·replace c60:=jq9.mpr c60
               subst c60
               have H1:(wk.j2 k2 l0_0 (l0_0.length:Int) x38_2 true l0_0 l0_1 a0_2 a0_3 ((kw l0_0 x38_2).f0) ((kw l0_0 x38_2).f1) ((kw l0_0 x38_2).f2) ((kw l0_0 x38_2).f3) ((kw l0_0 x38_2).f4))=some r:=by rw[if_neg (show ¬ (false=true) by decide)] at H;exact H
               clear H
               have H:=H1
               clear H1
               have H':=X.mk H
               clear H
               try go_wp2
               obtain⟨w63,e_⟩:∃ v_,v_=(((((w21.setCell ⟨gb103,0,none⟩ (.string ((kw l0_0 x38_2).f0))).setCell ⟨gb103,1,none⟩ (.slice A102_1 ((kw l0_0 x38_2).f1).length c102_1)).setCell ⟨gb103,2,none⟩ (.slice A102_2 ((kw l0_0 x38_2).f2).length c102_2)).setCell ⟨gb103,3,none⟩ (.slice A102_3 ((kw l0_0 x38_2).f3).length c102_3)).setCell ⟨gb103,4,none⟩ (.slice A102_4 ((kw l0_0 x38_2).f4).length c102_4)):=⟨_,rfl⟩
               have n0_:X (w63.heap[gb101]? = some (.cells #[.slice (some ad102) l0_0.length c0_0,.slice A0_1 l0_1.length c0_1,.int .i64 a0_2,.int .i64 a0_3] 45 (0,0))):=⟨by rewrite[e_];exact far5 BK101.out NB101_103.out⟩
               have n1_:X (w63.heap[gb103]? = some (.cells #[.string ((kw l0_0 x38_2).f0),.slice A102_1 ((kw l0_0 x38_2).f1).length c102_1,.slice A102_2 ((kw l0_0 x38_2).f2).length c102_2,.slice A102_3 ((kw l0_0 x38_2).f3).length c102_3,.slice A102_4 ((kw l0_0 x38_2).f4).length c102_4] 77 (0,0))):=⟨by rewrite[e_];exact put5 BK103.out⟩
               have n2_:X (Below w.heap.size w w63):=⟨by rewrite[e_];repeat(first|(with_reducible first|exact HB.out|apply O|apply U|apply L|refine qq ?_ GE101.out|refine qq ?_ GE103.out)|exact HB.out)⟩
               (try clear BK101)
               (try clear BK103)
               (try clear HB)
               rewrite[←e_]
               clear e_
               have BK101:=n0_
               have BK103:=n1_
               have HB:=n2_
               clear n0_ n1_ n2_
               have hS_:=(show(fun w'=>w'.cell? ⟨gb103,0,none⟩ = some (.string ((kw l0_0 x38_2).f0))∧w'.cell? ⟨gb103,1,none⟩ = some (.slice A102_1 ((kw l0_0 x38_2).f1).length c102_1)∧w'.cell? ⟨gb103,2,none⟩ = some (.slice A102_2 ((kw l0_0 x38_2).f2).length c102_2)∧w'.cell? ⟨gb103,3,none⟩ = some (.slice A102_3 ((kw l0_0 x38_2).f3).length c102_3)∧w'.cell? ⟨gb103,4,none⟩ = some (.slice A102_4 ((kw l0_0 x38_2).f4).length c102_4)) (w63) from⟨(I BK103.out 0).trans rfl,(I BK103.out 1).trans rfl,(I BK103.out 2).trans rfl,(I BK103.out 3).trans rfl,(I BK103.out 4).trans rfl⟩)
               obtain⟨hS0_,hS1_,hS2_,hS3_,hS4_⟩:=hS_
               go_quiet ((first|(go_at_call 40;exact Calls.quiet_of ((xw.calls k2 ((kw l0_0 x38_2).f0) true _ A24.out).mono fun _ _ h=>⟨h.1,h.2.out⟩))|(go_at_call 47;exact Calls.quiet_of ((xv.calls k2 _ _ ((kw l0_0 x38_2).f3) false _ (by repeat(first|exact(Kd.C_below HR102_3.out (by solve_by_elim (maxDepth:=20) only[HB.out,O,U,L,qq,GE101.out,qq,GE103.out]))|(with_reducible refine Kd.C_alloc ?_ _)|(with_reducible refine Kd.C_drewN ?_ _)|(with_reducible refine Kd.C_drew ?_))) (by exact HC102_3.out) A59.out).mono fun _ _ h=>⟨h.1,h.2.out⟩))))
               clear hS0_ hS1_ hS2_ hS3_ hS4_
               replace BK101:=X.mk (qj BK101.out nq)
               replace BK103:=X.mk (qj BK103.out nq)
               replace HB:=X.mk (U HB.out nq)
               generalize World.drewN w63 nq=w64 at BK101 BK103 HB ⊢
               try go_wp2
               go_meet
               case rel=>exact⟨_,(true),(by first|rfl|(simp;done)|(simp[*];done)),H',⟨by have:=HJ1.out;have:=HK2.out;first|omega|exact Nat.le_refl _⟩,⟨by(with_reducible repeat(first|refine qj ?_ _|refine qk ?_|refine qz ?_ _));exact BK101.out⟩,⟨by(with_reducible repeat(first|refine qj ?_ _|refine qk ?_|refine qz ?_ _));exact BK103.out⟩,⟨by repeat(first|(with_reducible first|exact HB.out|apply O|apply U|apply L|refine qq ?_ GE101.out|refine qq ?_ GE103.out)|exact HB.out)⟩⟩
            ·rw[if_neg c55] at H
             have c55b0:((((kw l0_0 x38_2).f1).length:Int) == 0)=false:=beq_eq_false_iff_ne.mpr c55
             have c55b1:((((kw l0_0 x38_2).f1).length:Int) != 0)=true:=bne_iff_ne.mpr c55
             have c55b2:¬ (((kw l0_0 x38_2).f1)=[]):=fun h_=>c55 (by rw[h_];rfl)
             by_cases c65:(((kw l0_0 x38_2).f1).length:Int)=16
             ·rw[if_pos c65] at H
              have c65b0:((((kw l0_0 x38_2).f1).length:Int) == 16)=true:=beq_iff_eq.mpr c65
              have c65b1:((((kw l0_0 x38_2).f1).length:Int) != 16)=false:=bne_eq_false_iff_eq.mpr c65
              clear c65
              by_cases c66:(((kw l0_0 x38_2).f2).length:Int) > 5
              ·rw[if_pos c66] at H
               have c66b0:decide (5 < (((kw l0_0 x38_2).f2).length:Int))=true:=decide_eq_true c66
               have c66b1:decide (5 < ((kw l0_0 x38_2).f2).length)=true:=decide_eq_true (by omega)
               clear c66
               have H':=X.mk H
               clear H
               try go_wp2
               obtain⟨w67,e_⟩:∃ v_,v_=(((((w21.setCell ⟨gb103,0,none⟩ (.string ((kw l0_0 x38_2).f0))).setCell ⟨gb103,1,none⟩ (.slice A102_1 ((kw l0_0 x38_2).f1).length c102_1)).setCell ⟨gb103,2,none⟩ (.slice A102_2 ((kw l0_0 x38_2).f2).length c102_2)).setCell ⟨gb103,3,none⟩ (.slice A102_3 ((kw l0_0 x38_2).f3).length c102_3)).setCell ⟨gb103,4,none⟩ (.slice A102_4 ((kw l0_0 x38_2).f4).length c102_4)):=⟨_,rfl⟩
               have n0_:X (w67.heap[gb101]? = some (.cells #[.slice (some ad102) l0_0.length c0_0,.slice A0_1 l0_1.length c0_1,.int .i64 a0_2,.int .i64 a0_3] 45 (0,0))):=⟨by rewrite[e_];exact far5 BK101.out NB101_103.out⟩
               have n1_:X (w67.heap[gb103]? = some (.cells #[.string ((kw l0_0 x38_2).f0),.slice A102_1 ((kw l0_0 x38_2).f1).length c102_1,.slice A102_2 ((kw l0_0 x38_2).f2).length c102_2,.slice A102_3 ((kw l0_0 x38_2).f3).length c102_3,.slice A102_4 ((kw l0_0 x38_2).f4).length c102_4] 77 (0,0))):=⟨by rewrite[e_];exact put5 BK103.out⟩
               have n2_:X (Below w.heap.size w w67):=⟨by rewrite[e_];repeat(first|(with_reducible first|exact HB.out|apply O|apply U|apply L|refine qq ?_ GE101.out|refine qq ?_ GE103.out)|exact HB.out)⟩
               (try clear BK101)
               (try clear BK103)
               (try clear HB)
               rewrite[←e_]
               clear e_
               have BK101:=n0_
               have BK103:=n1_
               have HB:=n2_
               clear n0_ n1_ n2_
               have hS_:=(show(fun w'=>w'.cell? ⟨gb103,0,none⟩ = some (.string ((kw l0_0 x38_2).f0))∧w'.cell? ⟨gb103,1,none⟩ = some (.slice A102_1 ((kw l0_0 x38_2).f1).length c102_1)∧w'.cell? ⟨gb103,2,none⟩ = some (.slice A102_2 ((kw l0_0 x38_2).f2).length c102_2)∧w'.cell? ⟨gb103,3,none⟩ = some (.slice A102_3 ((kw l0_0 x38_2).f3).length c102_3)∧w'.cell? ⟨gb103,4,none⟩ = some (.slice A102_4 ((kw l0_0 x38_2).f4).length c102_4)) (w67) from⟨(I BK103.out 0).trans rfl,(I BK103.out 1).trans rfl,(I BK103.out 2).trans rfl,(I BK103.out 3).trans rfl,(I BK103.out 4).trans rfl⟩)
               obtain⟨hS0_,hS1_,hS2_,hS3_,hS4_⟩:=hS_
               go_quiet ((first|(go_at_call 40;exact Calls.quiet_of ((xw.calls k2 ((kw l0_0 x38_2).f0) true _ A24.out).mono fun _ _ h=>⟨h.1,h.2.out⟩))))
               clear hS0_ hS1_ hS2_ hS3_ hS4_
               replace BK101:=X.mk (qj BK101.out nq)
               replace BK103:=X.mk (qj BK103.out nq)
               replace HB:=X.mk (U HB.out nq)
               generalize World.drewN w67 nq=w68 at BK101 BK103 HB ⊢
               try go_wp2
               go_meet
               case rel=>exact⟨_,(true),(by first|rfl|(simp;done)|(simp[*];done)),H',⟨by have:=HJ1.out;have:=HK2.out;first|omega|exact Nat.le_refl _⟩,⟨by(with_reducible repeat(first|refine qj ?_ _|refine qk ?_|refine qz ?_ _));exact BK101.out⟩,⟨by(with_reducible repeat(first|refine qj ?_ _|refine qk ?_|refine qz ?_ _));exact BK103.out⟩,⟨by repeat(first|(with_reducible first|exact HB.out|apply O|apply U|apply L|refine qq ?_ GE101.out|refine qq ?_ GE103.out)|exact HB.out)⟩⟩
              ·rw[if_neg c66] at H
               have c66b0:decide (5 < (((kw l0_0 x38_2).f2).length:Int))=false:=decide_eq_false c66
               have c66b1:decide (5 < ((kw l0_0 x38_2).f2).length)=false:=decide_eq_false (by omega)
               clear c66
               replace H:=jq8.mp H
               obtain⟨t109,A690,H⟩:=H
               try dsimp only at H
               have A69:=X.mk A690
               clear A690
               by_cases c70:t109=true
               ·subst c70
                have H1:(wk.j2 k2 l0_0 (l0_0.length:Int) x38_2 (decide ((((kw l0_0 x38_2).f4).length:Int) > 4)) l0_0 l0_1 a0_2 a0_3 ((kw l0_0 x38_2).f0) ((kw l0_0 x38_2).f1) ((kw l0_0 x38_2).f2) ((kw l0_0 x38_2).f3) ((kw l0_0 x38_2).f4))=some r:=by rw[if_pos rfl] at H;exact H
                clear H
                have H:=H1
                clear H1
                have H':=X.mk H
                clear H
                try go_wp2
                obtain⟨w71,e_⟩:∃ v_,v_=(((((w21.setCell ⟨gb103,0,none⟩ (.string ((kw l0_0 x38_2).f0))).setCell ⟨gb103,1,none⟩ (.slice A102_1 ((kw l0_0 x38_2).f1).length c102_1)).setCell ⟨gb103,2,none⟩ (.slice A102_2 ((kw l0_0 x38_2).f2).length c102_2)).setCell ⟨gb103,3,none⟩ (.slice A102_3 ((kw l0_0 x38_2).f3).length c102_3)).setCell ⟨gb103,4,none⟩ (.slice A102_4 ((kw l0_0 x38_2).f4).length c102_4)):=⟨_,rfl⟩
                have n0_:X (w71.heap[gb101]? = some (.cells #[.slice (some ad102) l0_0.length c0_0,.slice A0_1 l0_1.length c0_1,.int .i64 a0_2,.int .i64 a0_3] 45 (0,0))):=⟨by rewrite[e_];exact far5 BK101.out NB101_103.out⟩
                have n1_:X (w71.heap[gb103]? = some (.cells #[.string ((kw l0_0 x38_2).f0),.slice A102_1 ((kw l0_0 x38_2).f1).length c102_1,.slice A102_2 ((kw l0_0 x38_2).f2).length c102_2,.slice A102_3 ((kw l0_0 x38_2).f3).length c102_3,.slice A102_4 ((kw l0_0 x38_2).f4).length c102_4] 77 (0,0))):=⟨by rewrite[e_];exact put5 BK103.out⟩
                have n2_:X (Below w.heap.size w w71):=⟨by rewrite[e_];repeat(first|(with_reducible first|exact HB.out|apply O|apply U|apply L|refine qq ?_ GE101.out|refine qq ?_ GE103.out)|exact HB.out)⟩
                (try clear BK101)
                (try clear BK103)
                (try clear HB)
                rewrite[←e_]
                clear e_
                have BK101:=n0_
                have BK103:=n1_
                have HB:=n2_
                clear n0_ n1_ n2_
                have hS_:=(show(fun w'=>w'.cell? ⟨gb103,0,none⟩ = some (.string ((kw l0_0 x38_2).f0))∧w'.cell? ⟨gb103,1,none⟩ = some (.slice A102_1 ((kw l0_0 x38_2).f1).length c102_1)∧w'.cell? ⟨gb103,2,none⟩ = some (.slice A102_2 ((kw l0_0 x38_2).f2).length c102_2)∧w'.cell? ⟨gb103,3,none⟩ = some (.slice A102_3 ((kw l0_0 x38_2).f3).length c102_3)∧w'.cell? ⟨gb103,4,none⟩ = some (.slice A102_4 ((kw l0_0 x38_2).f4).length c102_4)) (w71) from⟨(I BK103.out 0).trans rfl,(I BK103.out 1).trans rfl,(I BK103.out 2).trans rfl,(I BK103.out 3).trans rfl,(I BK103.out 4).trans rfl⟩)
                obtain⟨hS0_,hS1_,hS2_,hS3_,hS4_⟩:=hS_
                go_quiet ((first|(go_at_call 40;exact Calls.quiet_of ((xw.calls k2 ((kw l0_0 x38_2).f0) true _ A24.out).mono fun _ _ h=>⟨h.1,h.2.out⟩))|(go_at_call 47;exact Calls.quiet_of ((xv.calls k2 _ _ ((kw l0_0 x38_2).f3) true _ (by repeat(first|exact(Kd.C_below HR102_3.out (by solve_by_elim (maxDepth:=20) only[HB.out,O,U,L,qq,GE101.out,qq,GE103.out]))|(with_reducible refine Kd.C_alloc ?_ _)|(with_reducible refine Kd.C_drewN ?_ _)|(with_reducible refine Kd.C_drew ?_))) (by exact HC102_3.out) A69.out).mono fun _ _ h=>⟨h.1,h.2.out⟩))))
                clear hS0_ hS1_ hS2_ hS3_ hS4_
                replace BK101:=X.mk (qj BK101.out nq)
                replace BK103:=X.mk (qj BK103.out nq)
                replace HB:=X.mk (U HB.out nq)
                generalize World.drewN w71 nq=w72 at BK101 BK103 HB ⊢
                try go_wp2
                go_meet
                case rel=>exact⟨_,(decide ((((kw l0_0 x38_2).f4).length:Int) > 4)),(by first|rfl|(simp;done)|(simp[*];done)),H',⟨by have:=HJ1.out;have:=HK2.out;first|omega|exact Nat.le_refl _⟩,⟨by(with_reducible repeat(first|refine qj ?_ _|refine qk ?_|refine qz ?_ _));exact BK101.out⟩,⟨by(with_reducible repeat(first|refine qj ?_ _|refine qk ?_|refine qz ?_ _));exact BK103.out⟩,⟨by repeat(first|(with_reducible first|exact HB.out|apply O|apply U|apply L|refine qq ?_ GE101.out|refine qq ?_ GE103.out)|exact HB.out)⟩⟩
               ·replace c70:=jq9.mpr c70
                subst c70
                have H1:(wk.j2 k2 l0_0 (l0_0.length:Int) x38_2 true l0_0 l0_1 a0_2 a0_3 ((kw l0_0 x38_2).f0) ((kw l0_0 x38_2).f1) ((kw l0_0 x38_2).f2) ((kw l0_0 x38_2).f3) ((kw l0_0 x38_2).f4))=some r:=by rw[if_neg (show ¬ (false=true) by decide)] at H;exact H
                clear H
                have H:=H1
                clear H1
                have H':=X.mk H
                clear H
                try go_wp2
                obtain⟨w73,e_⟩:∃ v_,v_=(((((w21.setCell ⟨gb103,0,none⟩ (.string ((kw l0_0 x38_2).f0))).setCell ⟨gb103,1,none⟩ (.slice A102_1 ((kw l0_0 x38_2).f1).length c102_1)).setCell ⟨gb103,2,none⟩ (.slice A102_2 ((kw l0_0 x38_2).f2).length c102_2)).setCell ⟨gb103,3,none⟩ (.slice A102_3 ((kw l0_0 x38_2).f3).length c102_3)).setCell ⟨gb103,4,none⟩ (.slice A102_4 ((kw l0_0 x38_2).f4).length c102_4)):=⟨_,rfl⟩
                have n0_:X (w73.heap[gb101]? = some (.cells #[.slice (some ad102) l0_0.length c0_0,.slice A0_1 l0_1.length c0_1,.int .i64 a0_2,.int .i64 a0_3] 45 (0,0))):=⟨by rewrite[e_];exact far5 BK101.out NB101_103.out⟩
                have n1_:X (w73.heap[gb103]? = some (.cells #[.string ((kw l0_0 x38_2).f0),.slice A102_1 ((kw l0_0 x38_2).f1).length c102_1,.slice A102_2 ((kw l0_0 x38_2).f2).length c102_2,.slice A102_3 ((kw l0_0 x38_2).f3).length c102_3,.slice A102_4 ((kw l0_0 x38_2).f4).length c102_4] 77 (0,0))):=⟨by rewrite[e_];exact put5 BK103.out⟩
                have n2_:X (Below w.heap.size w w73):=⟨by rewrite[e_];repeat(first|(with_reducible first|exact HB.out|apply O|apply U|apply L|refine qq ?_ GE101.out|refine qq ?_ GE103.out)|exact HB.out)⟩
                (try clear BK101)
                (try clear BK103)
                (try clear HB)
                rewrite[←e_]
                clear e_
                have BK101:=n0_
                have BK103:=n1_
                have HB:=n2_
                clear n0_ n1_ n2_
                have hS_:=(show(fun w'=>w'.cell? ⟨gb103,0,none⟩ = some (.string ((kw l0_0 x38_2).f0))∧w'.cell? ⟨gb103,1,none⟩ = some (.slice A102_1 ((kw l0_0 x38_2).f1).length c102_1)∧w'.cell? ⟨gb103,2,none⟩ = some (.slice A102_2 ((kw l0_0 x38_2).f2).length c102_2)∧w'.cell? ⟨gb103,3,none⟩ = some (.slice A102_3 ((kw l0_0 x38_2).f3).length c102_3)∧w'.cell? ⟨gb103,4,none⟩ = some (.slice A102_4 ((kw l0_0 x38_2).f4).length c102_4)) (w73) from⟨(I BK103.out 0).trans rfl,(I BK103.out 1).trans rfl,(I BK103.out 2).trans rfl,(I BK103.out 3).trans rfl,(I BK103.out 4).trans rfl⟩)
                obtain⟨hS0_,hS1_,hS2_,hS3_,hS4_⟩:=hS_
                go_quiet ((first|(go_at_call 40;exact Calls.quiet_of ((xw.calls k2 ((kw l0_0 x38_2).f0) true _ A24.out).mono fun _ _ h=>⟨h.1,h.2.out⟩))|(go_at_call 47;exact Calls.quiet_of ((xv.calls k2 _ _ ((kw l0_0 x38_2).f3) false _ (by repeat(first|exact(Kd.C_below HR102_3.out (by solve_by_elim (maxDepth:=20) only[HB.out,O,U,L,qq,GE101.out,qq,GE103.out]))|(with_reducible refine Kd.C_alloc ?_ _)|(with_reducible refine Kd.C_drewN ?_ _)|(with_reducible refine Kd.C_drew ?_))) (by exact HC102_3.out) A69.out).mono fun _ _ h=>⟨h.1,h.2.out⟩))))
                clear hS0_ hS1_ hS2_ hS3_ hS4_
                replace BK101:=X.mk (qj BK101.out nq)
                replace BK103:=X.mk (qj BK103.out nq)
                replace HB:=X.mk (U HB.out nq)
                generalize World.drewN w73 nq=w74 at BK101 BK103 HB ⊢
                try go_wp2
                go_meet
                case rel=>exact⟨_,(true),(by first|rfl|(simp;done)|(simp[*];done)),H',⟨by have:=HJ1.out;have:=HK2.out;first|omega|exact Nat.le_refl _⟩,⟨by(with_reducible repeat(first|refine qj ?_ _|refine qk ?_|refine qz ?_ _));exact BK101.out⟩,⟨by(with_reducible repeat(first|refine qj ?_ _|refine qk ?_|refine qz ?_ _));exact BK103.out⟩,⟨by repeat(first|(with_reducible first|exact HB.out|apply O|apply U|apply L|refine qq ?_ GE101.out|refine qq ?_ GE103.out)|exact HB.out)⟩⟩
             ·rw[if_neg c65] at H
              have c65b0:((((kw l0_0 x38_2).f1).length:Int) == 16)=false:=beq_eq_false_iff_ne.mpr c65
              have c65b1:((((kw l0_0 x38_2).f1).length:Int) != 16)=true:=bne_iff_ne.mpr c65
              have H':=X.mk H
              clear H
              try go_wp2
              obtain⟨w75,e_⟩:∃ v_,v_=(((((w21.setCell ⟨gb103,0,none⟩ (.string ((kw l0_0 x38_2).f0))).setCell ⟨gb103,1,none⟩ (.slice A102_1 ((kw l0_0 x38_2).f1).length c102_1)).setCell ⟨gb103,2,none⟩ (.slice A102_2 ((kw l0_0 x38_2).f2).length c102_2)).setCell ⟨gb103,3,none⟩ (.slice A102_3 ((kw l0_0 x38_2).f3).length c102_3)).setCell ⟨gb103,4,none⟩ (.slice A102_4 ((kw l0_0 x38_2).f4).length c102_4)):=⟨_,rfl⟩
              have n0_:X (w75.heap[gb101]? = some (.cells #[.slice (some ad102) l0_0.length c0_0,.slice A0_1 l0_1.length c0_1,.int .i64 a0_2,.int .i64 a0_3] 45 (0,0))):=⟨by rewrite[e_];exact far5 BK101.out NB101_103.out⟩
              have n1_:X (w75.heap[gb103]? = some (.cells #[.string ((kw l0_0 x38_2).f0),.slice A102_1 ((kw l0_0 x38_2).f1).length c102_1,.slice A102_2 ((kw l0_0 x38_2).f2).length c102_2,.slice A102_3 ((kw l0_0 x38_2).f3).length c102_3,.slice A102_4 ((kw l0_0 x38_2).f4).length c102_4] 77 (0,0))):=⟨by rewrite[e_];exact put5 BK103.out⟩
              have n2_:X (Below w.heap.size w w75):=⟨by rewrite[e_];repeat(first|(with_reducible first|exact HB.out|apply O|apply U|apply L|refine qq ?_ GE101.out|refine qq ?_ GE103.out)|exact HB.out)⟩
              (try clear BK101)
              (try clear BK103)
              (try clear HB)
              rewrite[←e_]
              clear e_
              have BK101:=n0_
              have BK103:=n1_
              have HB:=n2_
              clear n0_ n1_ n2_
              have hS_:=(show(fun w'=>w'.cell? ⟨gb103,0,none⟩ = some (.string ((kw l0_0 x38_2).f0))∧w'.cell? ⟨gb103,1,none⟩ = some (.slice A102_1 ((kw l0_0 x38_2).f1).length c102_1)∧w'.cell? ⟨gb103,2,none⟩ = some (.slice A102_2 ((kw l0_0 x38_2).f2).length c102_2)∧w'.cell? ⟨gb103,3,none⟩ = some (.slice A102_3 ((kw l0_0 x38_2).f3).length c102_3)∧w'.cell? ⟨gb103,4,none⟩ = some (.slice A102_4 ((kw l0_0 x38_2).f4).length c102_4)) (w75) from⟨(I BK103.out 0).trans rfl,(I BK103.out 1).trans rfl,(I BK103.out 2).trans rfl,(I BK103.out 3).trans rfl,(I BK103.out 4).trans rfl⟩)
              obtain⟨hS0_,hS1_,hS2_,hS3_,hS4_⟩:=hS_
              go_quiet ((first|(go_at_call 40;exact Calls.quiet_of ((xw.calls k2 ((kw l0_0 x38_2).f0) true _ A24.out).mono fun _ _ h=>⟨h.1,h.2.out⟩))))
              clear hS0_ hS1_ hS2_ hS3_ hS4_
              replace BK101:=X.mk (qj BK101.out nq)
              replace BK103:=X.mk (qj BK103.out nq)
              replace HB:=X.mk (U HB.out nq)
              generalize World.drewN w75 nq=w76 at BK101 BK103 HB ⊢
              try go_wp2
              go_meet
              case rel=>exact⟨_,(true),(by first|rfl|(simp;done)|(simp[*];done)),H',⟨by have:=HJ1.out;have:=HK2.out;first|omega|exact Nat.le_refl _⟩,⟨by(with_reducible repeat(first|refine qj ?_ _|refine qk ?_|refine qz ?_ _));exact BK101.out⟩,⟨by(with_reducible repeat(first|refine qj ?_ _|refine qk ?_|refine qz ?_ _));exact BK103.out⟩,⟨by repeat(first|(with_reducible first|exact HB.out|apply O|apply U|apply L|refine qq ?_ GE101.out|refine qq ?_ GE103.out)|exact HB.out)⟩⟩
          ·replace c25:=jq9.mpr c25
           subst c25
           have H1:(wk.j2 k2 l0_0 (l0_0.length:Int) x38_2 true l0_0 l0_1 a0_2 a0_3 ((kw l0_0 x38_2).f0) ((kw l0_0 x38_2).f1) ((kw l0_0 x38_2).f2) ((kw l0_0 x38_2).f3) ((kw l0_0 x38_2).f4))=some r:=by rw[if_neg (show ¬ (false=true) by decide)] at H;exact H
           clear H
           have H:=H1
           clear H1
           have H':=X.mk H
           clear H
           try go_wp2
           obtain⟨w77,e_⟩:∃ v_,v_=(((((w21.setCell ⟨gb103,0,none⟩ (.string ((kw l0_0 x38_2).f0))).setCell ⟨gb103,1,none⟩ (.slice A102_1 ((kw l0_0 x38_2).f1).length c102_1)).setCell ⟨gb103,2,none⟩ (.slice A102_2 ((kw l0_0 x38_2).f2).length c102_2)).setCell ⟨gb103,3,none⟩ (.slice A102_3 ((kw l0_0 x38_2).f3).length c102_3)).setCell ⟨gb103,4,none⟩ (.slice A102_4 ((kw l0_0 x38_2).f4).length c102_4)):=⟨_,rfl⟩
           have n0_:X (w77.heap[gb101]? = some (.cells #[.slice (some ad102) l0_0.length c0_0,.slice A0_1 l0_1.length c0_1,.int .i64 a0_2,.int .i64 a0_3] 45 (0,0))):=⟨by rewrite[e_];exact far5 BK101.out NB101_103.out⟩
           have n1_:X (w77.heap[gb103]? = some (.cells #[.string ((kw l0_0 x38_2).f0),.slice A102_1 ((kw l0_0 x38_2).f1).length c102_1,.slice A102_2 ((kw l0_0 x38_2).f2).length c102_2,.slice A102_3 ((kw l0_0 x38_2).f3).length c102_3,.slice A102_4 ((kw l0_0 x38_2).f4).length c102_4] 77 (0,0))):=⟨by rewrite[e_];exact put5 BK103.out⟩
           have n2_:X (Below w.heap.size w w77):=⟨by rewrite[e_];repeat(first|(with_reducible first|exact HB.out|apply O|apply U|apply L|refine qq ?_ GE101.out|refine qq ?_ GE103.out)|exact HB.out)⟩
           (try clear BK101)
           (try clear BK103)
           (try clear HB)
           rewrite[←e_]
           clear e_
           have BK101:=n0_
           have BK103:=n1_
           have HB:=n2_
           clear n0_ n1_ n2_
           have hS_:=(show(fun w'=>w'.cell? ⟨gb103,0,none⟩ = some (.string ((kw l0_0 x38_2).f0))∧w'.cell? ⟨gb103,1,none⟩ = some (.slice A102_1 ((kw l0_0 x38_2).f1).length c102_1)∧w'.cell? ⟨gb103,2,none⟩ = some (.slice A102_2 ((kw l0_0 x38_2).f2).length c102_2)∧w'.cell? ⟨gb103,3,none⟩ = some (.slice A102_3 ((kw l0_0 x38_2).f3).length c102_3)∧w'.cell? ⟨gb103,4,none⟩ = some (.slice A102_4 ((kw l0_0 x38_2).f4).length c102_4)) (w77) from⟨(I BK103.out 0).trans rfl,(I BK103.out 1).trans rfl,(I BK103.out 2).trans rfl,(I BK103.out 3).trans rfl,(I BK103.out 4).trans rfl⟩)
           obtain⟨hS0_,hS1_,hS2_,hS3_,hS4_⟩:=hS_
           go_quiet ((first|(go_at_call 40;exact Calls.quiet_of ((xw.calls k2 ((kw l0_0 x38_2).f0) false _ A24.out).mono fun _ _ h=>⟨h.1,h.2.out⟩))))
           clear hS0_ hS1_ hS2_ hS3_ hS4_
           replace BK101:=X.mk (qj BK101.out nq)
           replace BK103:=X.mk (qj BK103.out nq)
           replace HB:=X.mk (U HB.out nq)
           generalize World.drewN w77 nq=w78 at BK101 BK103 HB ⊢
           try go_wp2
           go_meet
           case rel=>exact⟨_,(true),(by first|rfl|(simp;done)|(simp[*];done)),H',⟨by have:=HJ1.out;have:=HK2.out;first|omega|exact Nat.le_refl _⟩,⟨by(with_reducible repeat(first|refine qj ?_ _|refine qk ?_|refine qz ?_ _));exact BK101.out⟩,⟨by(with_reducible repeat(first|refine qj ?_ _|refine qk ?_|refine qz ?_ _));exact BK103.out⟩,⟨by repeat(first|(with_reducible first|exact HB.out|apply O|apply U|apply L|refine qq ?_ GE101.out|refine qq ?_ GE103.out)|exact HB.out)⟩⟩
         case rest =>
          clear HC20
          try clear c1
          try clear c2
          try clear p2
          try clear c4
          try clear c10
          try clear c25
          try clear c40
          obtain⟨kq,x92_19,rfl,HA,HJ19,BK101,BK103,HB⟩:=hcut
          cases kq with
          | zero=>exact absurd HA.out (by simp[wk.j2])
          | succ kj19 =>
           have H:=HA.out
           clear HA
           simp only[wk.j2] at H
           by_cases c79:x92_19=true
           ·subst c79
            have H1:(some false)=some r:=by rw[if_pos rfl] at H;exact H
            clear H
            have H:=H1
            clear H1
            obtain rfl:=Option.some.inj H
            go_wp2
            go_ret
            exact⟨by first|rfl|(simp[*,zv,zk] <;> rfl),by repeat(first|(with_reducible first|exact HB.out|apply O|apply U|apply L|refine qq ?_ GE101.out|refine qq ?_ GE103.out)|exact HB.out)⟩
           ·replace c79:=jq9.mpr c79
            subst c79
            have H1:((has_impl_GoodServer_1.f kj19 ((kw l0_0 x38_2).f2)).bind fun t110=>(if t110=true then(some false) else((has_impl_GoodServer_2.f kj19 ((kw l0_0 x38_2).f4)).bind fun t111=>(if t111=true then(some false) else(wk.l0 kj19 l0_0 (l0_0.length:Int) (wrap64 (x38_2 + 1)) l0_0 l0_1 a0_2 a0_3)))))=some r:=by rw[if_neg (show ¬ (false=true) by decide)] at H;exact H
            clear H
            have H:=H1
            clear H1
            replace H:=jq8.mp H
            obtain⟨t110,A800,H⟩:=H
            try dsimp only at H
            have A80:=X.mk A800
            clear A800
            by_cases c81:t110=true
            ·subst c81
             have H1:(some false)=some r:=by rw[if_pos rfl] at H;exact H
             clear H
             have H:=H1
             clear H1
             obtain rfl:=Option.some.inj H
             have hnb82:=NB103_101.out
             have hnc82:=NB101_103.out
             have hcz83_0:wc.cell? ⟨gb103,0,none⟩ = some (.string ((kw l0_0 x38_2).f0)):=(I BK103.out 0).trans rfl
             have hcz83_1:wc.cell? ⟨gb103,1,none⟩ = some (.slice A102_1 ((kw l0_0 x38_2).f1).length c102_1):=(I BK103.out 1).trans rfl
             have hcz83_2:wc.cell? ⟨gb103,2,none⟩ = some (.slice A102_2 ((kw l0_0 x38_2).f2).length c102_2):=(I BK103.out 2).trans rfl
             have hcz83_3:wc.cell? ⟨gb103,3,none⟩ = some (.slice A102_3 ((kw l0_0 x38_2).f3).length c102_3):=(I BK103.out 3).trans rfl
             have hcz83_4:wc.cell? ⟨gb103,4,none⟩ = some (.slice A102_4 ((kw l0_0 x38_2).f4).length c102_4):=(I BK103.out 4).trans rfl
             have hfz83_0:=J BK103.out 0
             have hfz83_1:=J BK103.out 1
             have hfz83_2:=J BK103.out 2
             have hfz83_3:=J BK103.out 3
             have hfz83_4:=J BK103.out 4
             go_wp2_with (first|((with_reducible refine zw (f:=48) rfl ?_);refine goesL_ (some 95) rfl rfl Try.func48 (by kernel_rfl) rfl #[.slice A102_2 ((kw l0_0 x38_2).f2).length c102_2,.func (.func 49) #[] #[]] rfl (by(try simp only[jq0,jq1,jq2]);first|done|rfl|(simp only[jq3,jq4];rfl)) ?_;(with_reducible refine(has_impl_GoodServer_1.calls kj19 _ _ ((kw l0_0 x38_2).f2) true _ ?side1 ?side2 A80.out).mono ?_);(case side1=>solve_by_elim only[(Kd.C_below HR102_2.out HB.out),Kd.C_alloc,Kd.C_drewN,Kd.C_drew]);(case side2=>exact HC102_2.out);rintro e w' ⟨rfl,⟨nd,rfl⟩⟩;refine⟨_,rfl,?_⟩))
             go_ret
             exact⟨by first|rfl|(simp[*,zv,zk] <;> rfl),by repeat(first|(with_reducible first|exact HB.out|apply O|apply U|apply L|refine qq ?_ GE101.out|refine qq ?_ GE103.out)|exact HB.out)⟩
            ·replace c81:=jq9.mpr c81
             subst c81
             have H1:((has_impl_GoodServer_2.f kj19 ((kw l0_0 x38_2).f4)).bind fun t111=>(if t111=true then(some false) else(wk.l0 kj19 l0_0 (l0_0.length:Int) (wrap64 (x38_2 + 1)) l0_0 l0_1 a0_2 a0_3)))=some r:=by rw[if_neg (show ¬ (false=true) by decide)] at H;exact H
             clear H
             have H:=H1
             clear H1
             replace H:=jq8.mp H
             obtain⟨t111,A840,H⟩:=H
             try dsimp only at H
             have A84:=X.mk A840
             clear A840
             by_cases c85:t111=true
             ·subst c85
              have H1:(some false)=some r:=by rw[if_pos rfl] at H;exact H
              clear H
              have H:=H1
              clear H1
              obtain rfl:=Option.some.inj H
              have hnb86:=NB103_101.out
              have hnc86:=NB101_103.out
              have hcz87_0:wc.cell? ⟨gb103,0,none⟩ = some (.string ((kw l0_0 x38_2).f0)):=(I BK103.out 0).trans rfl
              have hcz87_1:wc.cell? ⟨gb103,1,none⟩ = some (.slice A102_1 ((kw l0_0 x38_2).f1).length c102_1):=(I BK103.out 1).trans rfl
              have hcz87_2:wc.cell? ⟨gb103,2,none⟩ = some (.slice A102_2 ((kw l0_0 x38_2).f2).length c102_2):=(I BK103.out 2).trans rfl
              have hcz87_3:wc.cell? ⟨gb103,3,none⟩ = some (.slice A102_3 ((kw l0_0 x38_2).f3).length c102_3):=(I BK103.out 3).trans rfl
              have hcz87_4:wc.cell? ⟨gb103,4,none⟩ = some (.slice A102_4 ((kw l0_0 x38_2).f4).length c102_4):=(I BK103.out 4).trans rfl
              have hfz87_0:=J BK103.out 0
              have hfz87_1:=J BK103.out 1
              have hfz87_2:=J BK103.out 2
              have hfz87_3:=J BK103.out 3
              have hfz87_4:=J BK103.out 4
              go_wp2_with (first|((with_reducible refine zw (f:=48) rfl ?_);refine goesL_ (some 95) rfl rfl Try.func48 (by kernel_rfl) rfl #[.slice A102_2 ((kw l0_0 x38_2).f2).length c102_2,.func (.func 49) #[] #[]] rfl (by(try simp only[jq0,jq1,jq2]);first|done|rfl|(simp only[jq3,jq4];rfl)) ?_;(with_reducible refine(has_impl_GoodServer_1.calls kj19 _ _ ((kw l0_0 x38_2).f2) false _ ?side1 ?side2 A80.out).mono ?_);(case side1=>solve_by_elim only[(Kd.C_below HR102_2.out HB.out),Kd.C_alloc,Kd.C_drewN,Kd.C_drew]);(case side2=>exact HC102_2.out);rintro e w' ⟨rfl,⟨nd,rfl⟩⟩;refine⟨_,rfl,?_⟩)|(go_at_call 51;(with_reducible refine(has_impl_GoodServer_2.calls kj19 _ _ ((kw l0_0 x38_2).f4) true _ ?side1 ?side2 A84.out).mono ?_);(case side1=>repeat(first|exact(Kd.C_below HR102_4.out (by solve_by_elim (maxDepth:=20) only[HB.out,O,U,L,qq,GE101.out,qq,GE103.out]))|(with_reducible refine Kd.C_alloc ?_ _)|(with_reducible refine Kd.C_drewN ?_ _)|(with_reducible refine Kd.C_drew ?_)));(case side2=>exact HC102_4.out);rintro e w' ⟨rfl,⟨nd,rfl⟩⟩))
              go_ret
              exact⟨by first|rfl|(simp[*,zv,zk] <;> rfl),by repeat(first|(with_reducible first|exact HB.out|apply O|apply U|apply L|refine qq ?_ GE101.out|refine qq ?_ GE103.out)|exact HB.out)⟩
             ·replace c85:=jq9.mpr c85
              subst c85
              have H1:(wk.l0 kj19 l0_0 (l0_0.length:Int) (wrap64 (x38_2 + 1)) l0_0 l0_1 a0_2 a0_3)=some r:=by rw[if_neg (show ¬ (false=true) by decide)] at H;exact H
              clear H
              have H:=H1
              clear H1
              have H':=X.mk H
              clear H
              have hnb88:=NB103_101.out
              have hnc88:=NB101_103.out
              have hcz89_0:wc.cell? ⟨gb103,0,none⟩ = some (.string ((kw l0_0 x38_2).f0)):=(I BK103.out 0).trans rfl
              have hcz89_1:wc.cell? ⟨gb103,1,none⟩ = some (.slice A102_1 ((kw l0_0 x38_2).f1).length c102_1):=(I BK103.out 1).trans rfl
              have hcz89_2:wc.cell? ⟨gb103,2,none⟩ = some (.slice A102_2 ((kw l0_0 x38_2).f2).length c102_2):=(I BK103.out 2).trans rfl
              have hcz89_3:wc.cell? ⟨gb103,3,none⟩ = some (.slice A102_3 ((kw l0_0 x38_2).f3).length c102_3):=(I BK103.out 3).trans rfl
              have hcz89_4:wc.cell? ⟨gb103,4,none⟩ = some (.slice A102_4 ((kw l0_0 x38_2).f4).length c102_4):=(I BK103.out 4).trans rfl
              have hfz89_0:=J BK103.out 0
              have hfz89_1:=J BK103.out 1
              have hfz89_2:=J BK103.out 2
              have hfz89_3:=J BK103.out 3
              have hfz89_4:=J BK103.out 4
              go_wp2_with (first|((with_reducible refine zw (f:=48) rfl ?_);refine goesL_ (some 95) rfl rfl Try.func48 (by kernel_rfl) rfl #[.slice A102_2 ((kw l0_0 x38_2).f2).length c102_2,.func (.func 49) #[] #[]] rfl (by(try simp only[jq0,jq1,jq2]);first|done|rfl|(simp only[jq3,jq4];rfl)) ?_;(with_reducible refine(has_impl_GoodServer_1.calls kj19 _ _ ((kw l0_0 x38_2).f2) false _ ?side1 ?side2 A80.out).mono ?_);(case side1=>solve_by_elim only[(Kd.C_below HR102_2.out HB.out),Kd.C_alloc,Kd.C_drewN,Kd.C_drew]);(case side2=>exact HC102_2.out);rintro e w' ⟨rfl,⟨nd,rfl⟩⟩;refine⟨_,rfl,?_⟩)|(go_at_call 51;(with_reducible refine(has_impl_GoodServer_2.calls kj19 _ _ ((kw l0_0 x38_2).f4) false _ ?side1 ?side2 A84.out).mono ?_);(case side1=>repeat(first|exact(Kd.C_below HR102_4.out (by solve_by_elim (maxDepth:=20) only[HB.out,O,U,L,qq,GE101.out,qq,GE103.out]))|(with_reducible refine Kd.C_alloc ?_ _)|(with_reducible refine Kd.C_drewN ?_ _)|(with_reducible refine Kd.C_drew ?_)));(case side2=>exact HC102_4.out);rintro e w' ⟨rfl,⟨nd,rfl⟩⟩))
              go_roundg kj19
              case measure=>have:=HJ1.out;have:=HK2.out;have:=HJ19.out;omega
              case rel=>exact⟨(wrap64 (x38_2 + 1)),(by first|rfl|(simp;done)|(simp[*];done)),H',⟨by have:=HJ1.out;have:=HK2.out;have:=HJ19.out;omega⟩,⟨by(with_reducible repeat(first|refine qj ?_ _|refine qk ?_|refine qz ?_ _));exact BK101.out⟩,⟨by repeat(first|(with_reducible first|exact HB.out|apply O|apply U|apply L|refine qq ?_ GE101.out|refine qq ?_ GE103.out)|exact HB.out)⟩⟩
        ·rw[if_neg c19] at H
         exact absurd H (by simp)
       ·rw[if_neg c18] at H
        exact absurd H (by simp)
      ·rw[if_neg c17] at H
       have c17b0:decide (x38_2 < (l0_0.length:Int))=false:=decide_eq_false c17
       clear c17
       obtain rfl:=Option.some.inj H
       go_wp2
       go_ret
       exact⟨by first|rfl|(simp[*,zv,zk] <;> rfl),by repeat(first|(with_reducible first|exact HB.out|apply O|apply U|apply L|refine qq ?_ GE101.out)|exact HB.out)⟩
end Go.Proofs.Ytakocdkcfjkmdaa.Pr
namespace Go.Proofs.Ytakocdkcfjkmdaa.Pr
open Go.RowKit Go.Proofs.YtakocdkcfjkmdaaW.PrintWords Go.Proofs.YtakocdkcfjkmdaaW.PrintLast Go.Proofs.YtakocdkcfjkmdaaW.PrintMore
attribute [local go_sem] max2_int min2_int max_two min_two max_three min_three max_four min_four
set_option linter.unusedVariables false
set_option linter.unusedSimpArgs false
def vx.f (a0_0:ByteArray) (l0_1:List Int) (l0_2:List ByteArray) (l0_3:List ByteArray) (l0_4:List Int):Option (ByteArray):=some a0_0
theorem vx.calls (a0_0:ByteArray) (A0_1:Option Addr) (c0_1:Nat) (l0_1:List Int) (A0_2:Option Addr) (c0_2:Nat) (l0_2:List ByteArray) (A0_3:Option Addr) (c0_3:Nat) (l0_3:List ByteArray) (A0_4:Option Addr) (c0_4:Nat) (l0_4:List Int) (r:ByteArray) (w:World) (hr0_1:Kd.C (Kd.int .u8) w A0_1 l0_1.length l0_1) (hc0_1:l0_1.length≤c0_1) (hr0_2:Kd.C Kd.string w A0_2 l0_2.length l0_2) (hc0_2:l0_2.length≤c0_2) (hr0_3:Kd.C Kd.string w A0_3 l0_3.length l0_3) (hc0_3:l0_3.length≤c0_3) (hr0_4:Kd.C (Kd.int .i64) w A0_4 l0_4.length l0_4) (hc0_4:l0_4.length≤c0_4) (h:vx.f a0_0 l0_1 l0_2 l0_3 l0_4=some r) :
  Calls Try.prog 86 #[.agg #[.string a0_0,.slice A0_1 l0_1.length c0_1,.slice A0_2 l0_2.length c0_2,.slice A0_3 l0_3.length c0_3,.slice A0_4 l0_4.length c0_4]] w fun e w'=>e=.returned (.string r)∧Below w.heap.size w w':=by
 have hu77:=Try.underlying77
 have HR0_1:=X.mk hr0_1
 have HC0_1:=X.mk hc0_1
 clear hr0_1 hc0_1
 have HR0_2:=X.mk hr0_2
 have HC0_2:=X.mk hc0_2
 clear hr0_2 hc0_2
 have HR0_3:=X.mk hr0_3
 have HC0_3:=X.mk hc0_3
 clear hr0_3 hc0_3
 have HR0_4:=X.mk hr0_4
 have HC0_4:=X.mk hc0_4
 clear hr0_4 hc0_4
 have HB:=X.mk (Below.refl w.heap.size w)
 have H:(some a0_0)=some r:=h
 clear h
 obtain rfl:=Option.some.inj H
 go_enter Try.func86,Try.ntmps86
 go_wp2_with (first|((with_reducible refine gate_dst (N:=1) rfl ?_);refine box_event ?hg (N:=1) ?hd (cs:=#[.string a0_0,.slice A0_1 l0_1.length c0_1,.slice A0_2 l0_2.length c0_2,.slice A0_3 l0_3.length c0_3,.slice A0_4 l0_4.length c0_4]) (t:=77) ?hr ?_;(case hd=>rfl);(case hg=>rfl);(case hr=>first|(go_simp;done)|(go_simp;rfl));intro gb101 hg w2 hbox hb;have BK101:=X.mk (hbox);have GW101:=X.mk ((by rw[hg];exact(qx (by solve_by_elim only[HB.out,O,U,L])):w.heap.size≤gb101));have GE101:=X.mk ((by rw[hg];exact(qx (by solve_by_elim only[HB.out,O,U,L])):w.heap.size≤gb101));replace HB:=X.mk (qw (by solve_by_elim only[HB.out,O,U,L]) hb);clear hb hbox hg;have hcz3_0:w2.cell? ⟨gb101,0,none⟩ = some (.string a0_0):=(I BK101.out 0).trans rfl;have hcz3_1:w2.cell? ⟨gb101,1,none⟩ = some (.slice A0_1 l0_1.length c0_1):=(I BK101.out 1).trans rfl;have hcz3_2:w2.cell? ⟨gb101,2,none⟩ = some (.slice A0_2 l0_2.length c0_2):=(I BK101.out 2).trans rfl;have hcz3_3:w2.cell? ⟨gb101,3,none⟩ = some (.slice A0_3 l0_3.length c0_3):=(I BK101.out 3).trans rfl;have hcz3_4:w2.cell? ⟨gb101,4,none⟩ = some (.slice A0_4 l0_4.length c0_4):=(I BK101.out 4).trans rfl;have hfz3_0:=J BK101.out 0;have hfz3_1:=J BK101.out 1;have hfz3_2:=J BK101.out 2;have hfz3_3:=J BK101.out 3;have hfz3_4:=J BK101.out 4))
 go_ret
 exact⟨by first|rfl|(simp[*,zv,zk] <;> rfl),by repeat(first|(with_reducible first|exact HB.out|apply O|apply U|apply L|refine qq ?_ GE101.out)|exact HB.out)⟩
end Go.Proofs.Ytakocdkcfjkmdaa.Pr
namespace Go.Proofs.Ytakocdkcfjkmdaa.Pr
open Go.RowKit Go.Proofs.YtakocdkcfjkmdaaW.PrintWords Go.Proofs.YtakocdkcfjkmdaaW.PrintLast Go.Proofs.YtakocdkcfjkmdaaW.PrintMore
attribute [local go_sem] max2_int min2_int max_two min_two max_three min_three max_four min_four
set_option linter.unusedVariables false
set_option linter.unusedSimpArgs false
def vw.l0:Nat→ByteArray→List (S77)→Int→Int→Option (ByteArray × List Int × List ByteArray × List ByteArray × List Int × Bool)
 | 0,_,_,_,_=>none
 | k + 1,x2,x11,x12,x13=>if x13 < x12 then(if 0≤x13 then(if x13 < (x11.length:Int) then((vx.f ((kw x11 x13).f0) ((kw x11 x13).f1) ((kw x11 x13).f2) ((kw x11 x13).f3) ((kw x11 x13).f4)).bind fun t104=>(if t104.toList=x2.toList then(some ((kw x11 x13).f0,(kw x11 x13).f1,(kw x11 x13).f2,(kw x11 x13).f3,(kw x11 x13).f4,true)) else(vw.l0 k x2 x11 x12 (wrap64 (x13 + 1))))) else(none)) else(none)) else(some ((⟨#[]⟩ : ByteArray),([]:List Int),([]:List ByteArray),([]:List ByteArray),([]:List Int),false))
def vw.f (k:Nat) (l0:List (S77)) (a1:Bool) (a2:ByteArray):Option (ByteArray × List Int × List ByteArray × List ByteArray × List Int × Bool):=vw.l0 k a2 l0 (l0.length:Int) 0
theorem vw.calls (k:Nat) (P0_:Nat→Prop) (A0:Option Addr) (c0:Nat) (l0:List (S77)) (a1:Bool) (a2:ByteArray) (r1:ByteArray) (r2:List Int) (r3:List ByteArray) (r4:List ByteArray) (r5:List Int) (r6:Bool) (w:World) (hs0:Kd.V k77 77 w w.heap.size (fun k_=>P0_ k_) (.slice A0 l0.length c0) l0) (h:vw.f k l0 a1 a2=some (r1,r2,r3,r4,r5,r6)) :
  Calls Try.prog 85 #[.slice A0 l0.length c0,(.func (.func 86) #[] #[]),.string a2] w fun e w'=>∃ v1_ v2_ v3_ v4_:Value,e=.returned (.tuple #[.agg #[.string r1,v1_,v2_,v3_,v4_],.bool r6])∧Kd.V (Kd.int .u8) 5 w' w.heap.size (fun k_=>(P0_ k_∨w.heap.size≤k_)) v1_ r2∧Kd.V Kd.string 9 w' w.heap.size (fun k_=>(P0_ k_∨w.heap.size≤k_)) v2_ r3∧Kd.V Kd.string 9 w' w.heap.size (fun k_=>(P0_ k_∨w.heap.size≤k_)) v3_ r4∧Kd.V (Kd.int .i64) 3 w' w.heap.size (fun k_=>(P0_ k_∨w.heap.size≤k_)) v4_ r5∧Below w.heap.size w w':=by
 have hu77:=Try.underlying77
 have HO0:=X.mk (show Kd.V k77 77 w w.heap.size (fun k_=>(P0_ k_∨w.heap.size≤k_)) (.slice A0 l0.length c0) l0 from Kd.V_mono hs0 (fun k_ hk=>.inl hk))
 have HB:=X.mk (Below.refl w.heap.size w)
 have H:(vw.l0 k a2 l0 (l0.length:Int) 0)=some (r1,r2,r3,r4,r5,r6):=h
 clear h
 have H':=X.mk H
 clear H
 have eg_:∀ (args_:Array Value) (w_:World),(callFunc 86 args_).run Try.prog w_=.ok (.enter 86 args_) w_:=enters_of Try.func86 (by kernel_rfl) rfl
 go_enter Try.func85,Try.ntmps85
 go_wp2_with (first|((with_reducible refine gate_dst (N:=6) rfl ?_);refine box_event ?hg (N:=6) ?hd (cs:=#[.string (⟨#[]⟩ : ByteArray),.slice none 0 0,.slice none 0 0,.slice none 0 0,.slice none 0 0]) (t:=77) ?hr ?_;(case hd=>rfl);(case hg=>rfl);(case hr=>first|(go_simp;done)|(go_simp;rfl));intro gb101 hg w4 hbox hb;replace HO0:=X.mk (Kd.V_below (Kd.V_elderB (by(with_reducible repeat(first|apply Kd.jx|apply Kd.jw|apply Kd.kz));exact HO0.out) gb101 (Nat.le_of_eq hg.symm)) hb);have BK101:=X.mk (hbox);have GW101:=X.mk ((by rw[hg];exact(qx (by solve_by_elim only[HB.out,O,U,L])):w.heap.size≤gb101));have GE101:=X.mk ((by rw[hg];exact(qx (by solve_by_elim only[HB.out,O,U,L])):w.heap.size≤gb101));replace HB:=X.mk (qw (by solve_by_elim only[HB.out,O,U,L]) hb);clear hb hbox hg))
 go_loopg [13] k (fun kq v13 w'=>∃ (x13_1:Int) (x102000_1:ByteArray),v13=.int .i64 x13_1∧X (vw.l0 kq a2 l0 (l0.length:Int) x13_1=some (r1,r2,r3,r4,r5,r6))∧X (kq≤k)∧X (Kd.V k77 77 w' w.heap.size (fun k_=>(P0_ k_∨w.heap.size≤k_)∧k_≠gb101) (.slice A0 l0.length c0) l0)∧X (w'.heap[gb101]? = some (.cells #[.string x102000_1,(.slice none 0 0),(.slice none 0 0),(.slice none 0 0),(.slice none 0 0)] 77 (0,0)))∧X (Below w.heap.size w w'))
 case atStart=>exact⟨(0),((⟨#[]⟩ : ByteArray)),(by first|rfl|(simp;done)|(simp[*];done)),H',⟨Nat.le_refl _⟩,⟨by(with_reducible repeat(first|apply Kd.jx|apply Kd.jw|apply Kd.kz));exact HO0.out⟩,⟨by(with_reducible repeat(first|refine qj ?_ _|refine qk ?_|refine qz ?_ _));exact BK101.out⟩,⟨by repeat(first|(with_reducible first|exact HB.out|apply O|apply U|apply L|refine qq ?_ GE101.out)|exact HB.out)⟩⟩
 case round =>
  clear H'
  try clear c1
  try clear p2
  obtain⟨x13_1,x102000_1,rfl,HA,HK1,HO_11,BK101,HB⟩:=hrel
  cases gk with
  | zero=>exact absurd HA.out (by simp[vw.l0])
  | succ k1 =>
   have H:=HA.out
   clear HA
   simp only[vw.l0] at H
   by_cases c5:x13_1 < (l0.length:Int)
   ·rw[if_pos c5] at H
    have c5b0:decide (x13_1 < (l0.length:Int))=true:=decide_eq_true c5
    clear c5
    by_cases c6 : 0≤x13_1
    ·rw[if_pos c6] at H
     have c6b0:decide (0≤x13_1)=true:=decide_eq_true c6
     clear c6
     by_cases c7:x13_1 < (l0.length:Int)
     ·rw[if_pos c7] at H
      have c7b0:decide (x13_1 < (l0.length:Int))=true:=decide_eq_true c7
      clear c7
      replace H:=jq8.mp H
      obtain⟨t104,A80,H⟩:=H
      try dsimp only at H
      have A8:=X.mk A80
      clear A80
      by_cases c9:t104.toList=a2.toList
      ·rw[if_pos c9] at H
       have c9b0:(t104.toList == a2.toList)=true:=beq_iff_eq.mpr c9
       have c9b1:(t104.toList != a2.toList)=false:=bne_eq_false_iff_eq.mpr c9
       clear c9
       simp only[Option.some.injEq,Prod.mk.injEq] at H
       obtain⟨rfl,rfl,rfl,rfl,rfl,rfl⟩:=H
       have p102 : 0≤(x13_1:Int):=of_decide_eq_true (by assumption)
       have q102:x13_1 < (l0.length:Int):=of_decide_eq_true (by assumption)
       obtain⟨ad102,A102_1,c102_1,A102_2,c102_2,A102_3,c102_3,A102_4,c102_4,e102,hx102_0,hx102_1,hx102_2,hx102_3,hx102_4,hl102_1,hi102_1,hl102_2,hi102_2,hl102_3,hi102_3,hl102_4,hi102_4⟩:=at_T77 (Kd.V_reads' HO_11.out).2.2 x13_1 p102 q102
       cases e102
       obtain⟨ce102,hce102,hMe102,hcc102⟩:=Kd.V_get HO_11.out z77 x13_1 p102 (by first|exact q102|exact of_decide_eq_true (by assumption)|(have e_:=(Kd.V_reads' HO_11.out).1;omega))
       obtain⟨ua102_1,uc102_1,ua102_2,uc102_2,ua102_3,uc102_3,ua102_4,uc102_4,rfl,ul102_1,ge102_1,ul102_2,ge102_2,ul102_3,ge102_3,ul102_4,ge102_4⟩:=k77_openF hMe102
       have hv102_1:=hcc102 1 _ rfl
       rw[add_field _ _ 1 (by omega)] at hv102_1
       replace hv102_1:=Option.some.inj (hv102_1.symm.trans hx102_1)
       injection hv102_1 with hva_ hvn_ hvc_
       rw[hva_] at ge102_1
       rw[hvc_] at ul102_1
       have HL102_1:=X.mk (show Kd.V (Kd.int .u8) 5 _ w.heap.size _ _ ((kw l0 x13_1).f1) from Kd.V_mk ul102_1 ge102_1)
       clear hva_ hvn_ hvc_ ge102_1 ul102_1
       have hv102_2:=hcc102 2 _ rfl
       rw[add_field _ _ 2 (by omega)] at hv102_2
       replace hv102_2:=Option.some.inj (hv102_2.symm.trans hx102_2)
       injection hv102_2 with hva_ hvn_ hvc_
       rw[hva_] at ge102_2
       rw[hvc_] at ul102_2
       have HL102_2:=X.mk (show Kd.V Kd.string 9 _ w.heap.size _ _ ((kw l0 x13_1).f2) from Kd.V_mk ul102_2 ge102_2)
       clear hva_ hvn_ hvc_ ge102_2 ul102_2
       have hv102_3:=hcc102 3 _ rfl
       rw[add_field _ _ 3 (by omega)] at hv102_3
       replace hv102_3:=Option.some.inj (hv102_3.symm.trans hx102_3)
       injection hv102_3 with hva_ hvn_ hvc_
       rw[hva_] at ge102_3
       rw[hvc_] at ul102_3
       have HL102_3:=X.mk (show Kd.V Kd.string 9 _ w.heap.size _ _ ((kw l0 x13_1).f3) from Kd.V_mk ul102_3 ge102_3)
       clear hva_ hvn_ hvc_ ge102_3 ul102_3
       have hv102_4:=hcc102 4 _ rfl
       rw[add_field _ _ 4 (by omega)] at hv102_4
       replace hv102_4:=Option.some.inj (hv102_4.symm.trans hx102_4)
       injection hv102_4 with hva_ hvn_ hvc_
       rw[hva_] at ge102_4
       rw[hvc_] at ul102_4
       have HL102_4:=X.mk (show Kd.V (Kd.int .i64) 3 _ w.heap.size _ _ ((kw l0 x13_1).f4) from Kd.V_mk ul102_4 ge102_4)
       clear hva_ hvn_ hvc_ ge102_4 ul102_4
       clear hcc102 hce102
       have HR102_1:=X.mk hi102_1
       have HC102_1:=X.mk hl102_1
       clear hi102_1 hl102_1
       have HR102_2:=X.mk hi102_2
       have HC102_2:=X.mk hl102_2
       clear hi102_2 hl102_2
       have HR102_3:=X.mk hi102_3
       have HC102_3:=X.mk hl102_3
       clear hi102_3 hl102_3
       have HR102_4:=X.mk hi102_4
       have HC102_4:=X.mk hl102_4
       clear hi102_4 hl102_4
       replace p102:=eq_true p102
       replace q102:=eq_true q102
       go_wp2_with (first|((with_reducible refine gate_dst (N:=9) rfl ?_);refine box_event ?hg (N:=9) ?hd (cs:=#[.string (⟨#[]⟩ : ByteArray),.slice none 0 0,.slice none 0 0,.slice none 0 0,.slice none 0 0]) (t:=77) ?hr ?_;(case hd=>rfl);(case hg=>rfl);(case hr=>first|(go_simp;done)|(go_simp;rfl));intro gb103 hg w10 hbox hb;replace HO_11:=X.mk (Kd.V_below (Kd.V_elderB (by(with_reducible repeat(first|apply Kd.jx|apply Kd.jw|apply Kd.kz));exact HO_11.out) gb103 (Nat.le_of_eq hg.symm)) hb);replace HL102_1:=X.mk (Kd.V_below (Kd.V_elderB (by(with_reducible repeat(first|apply Kd.jx|apply Kd.jw|apply Kd.kz));exact HL102_1.out) gb103 (Nat.le_of_eq hg.symm)) hb);replace HL102_2:=X.mk (Kd.V_below (Kd.V_elderB (by(with_reducible repeat(first|apply Kd.jx|apply Kd.jw|apply Kd.kz));exact HL102_2.out) gb103 (Nat.le_of_eq hg.symm)) hb);replace HL102_3:=X.mk (Kd.V_below (Kd.V_elderB (by(with_reducible repeat(first|apply Kd.jx|apply Kd.jw|apply Kd.kz));exact HL102_3.out) gb103 (Nat.le_of_eq hg.symm)) hb);replace HL102_4:=X.mk (Kd.V_below (Kd.V_elderB (by(with_reducible repeat(first|apply Kd.jx|apply Kd.jw|apply Kd.kz));exact HL102_4.out) gb103 (Nat.le_of_eq hg.symm)) hb);replace HR102_1:=X.mk (Kd.C_below (by repeat(first|(with_reducible exact HR102_1.out)|(with_reducible refine Kd.C_alloc ?_ _)|(with_reducible refine Kd.C_drewN ?_ _)|(with_reducible refine Kd.C_drew ?_)|exact HR102_1.out)) hb);replace HR102_2:=X.mk (Kd.C_below (by repeat(first|(with_reducible exact HR102_2.out)|(with_reducible refine Kd.C_alloc ?_ _)|(with_reducible refine Kd.C_drewN ?_ _)|(with_reducible refine Kd.C_drew ?_)|exact HR102_2.out)) hb);replace HR102_3:=X.mk (Kd.C_below (by repeat(first|(with_reducible exact HR102_3.out)|(with_reducible refine Kd.C_alloc ?_ _)|(with_reducible refine Kd.C_drewN ?_ _)|(with_reducible refine Kd.C_drew ?_)|exact HR102_3.out)) hb);replace HR102_4:=X.mk (Kd.C_below (by repeat(first|(with_reducible exact HR102_4.out)|(with_reducible refine Kd.C_alloc ?_ _)|(with_reducible refine Kd.C_drewN ?_ _)|(with_reducible refine Kd.C_drew ?_)|exact HR102_4.out)) hb);have BK103:=X.mk (hbox);have GW103:=X.mk ((by rw[hg];exact(qx (by solve_by_elim (maxDepth:=20) only[HB.out,O,U,L,qq,GE101.out])):w.heap.size≤gb103));have GE103:=X.mk ((by rw[hg];exact(qx (by solve_by_elim (maxDepth:=20) only[HB.out,O,U,L,qq,GE101.out])):w.heap.size≤gb103));replace HB:=X.mk (qw (by solve_by_elim (maxDepth:=20) only[HB.out,O,U,L,qq,GE101.out]) hb);have NB101_103:=X.mk ((by rw[hg];exact Nat.ne_of_lt (blk_lt (g:=gb101) (o:=.cells #[.string x102000_1,.slice none 0 0,.slice none 0 0,.slice none 0 0,.slice none 0 0] 77 (0,0)) (by solve_by_elim only[BK101.out,qj,qk,qz])):gb101≠gb103));have NB103_101:=X.mk ((by rw[hg];exact Nat.ne_of_gt (blk_lt (g:=gb101) (o:=.cells #[.string x102000_1,.slice none 0 0,.slice none 0 0,.slice none 0 0,.slice none 0 0] 77 (0,0)) (by solve_by_elim only[BK101.out,qj,qk,qz])):gb103≠gb101));replace BK101:=X.mk (kj (g:=gb101) (o:=.cells #[.string x102000_1,.slice none 0 0,.slice none 0 0,.slice none 0 0,.slice none 0 0] 77 (0,0)) (by solve_by_elim only[BK101.out,qj,qk,qz]) hb);clear hb hbox hg;have hnb11:=NB103_101.out;have hnc11:=NB101_103.out;have hcz12_0:w10.cell? ⟨gb103,0,none⟩ = some (.string (⟨#[]⟩ : ByteArray)):=(I BK103.out 0).trans rfl;have hcz12_1:w10.cell? ⟨gb103,1,none⟩ = some (.slice none 0 0):=(I BK103.out 1).trans rfl;have hcz12_2:w10.cell? ⟨gb103,2,none⟩ = some (.slice none 0 0):=(I BK103.out 2).trans rfl;have hcz12_3:w10.cell? ⟨gb103,3,none⟩ = some (.slice none 0 0):=(I BK103.out 3).trans rfl;have hcz12_4:w10.cell? ⟨gb103,4,none⟩ = some (.slice none 0 0):=(I BK103.out 4).trans rfl;have hfz12_0:=J BK103.out 0;have hfz12_1:=J BK103.out 1;have hfz12_2:=J BK103.out 2;have hfz12_3:=J BK103.out 3;have hfz12_4:=J BK103.out 4)|(go_at_call 86;(with_reducible refine(vx.calls ((kw l0 x13_1).f0) _ _ ((kw l0 x13_1).f1) _ _ ((kw l0 x13_1).f2) _ _ ((kw l0 x13_1).f3) _ _ ((kw l0 x13_1).f4) t104 _ ?side1 ?side2 ?side3 ?side4 ?side5 ?side6 ?side7 ?side8 A8.out).mono ?_);(case side1=>repeat(first|exact((Kd.V_reads' (by(with_reducible repeat(first|apply Kd.jx|apply Kd.jw|apply Kd.kz));exact(Kd.V_mono (Kd.V_far (p:=⟨gb103,4,none⟩) (Kd.V_far (p:=⟨gb103,3,none⟩) (Kd.V_far (p:=⟨gb103,2,none⟩) (Kd.V_far (p:=⟨gb103,1,none⟩) (Kd.V_far (p:=⟨gb103,0,none⟩) (Kd.V_mono HL102_1.out (fun k_ hk=>(⟨hk,hk.2⟩ : _∧k_≠gb103))) (fun _ hk=>hk.2) (.string ((kw l0 x13_1).f0))) (fun _ hk=>hk.2) (.slice A102_1 ((kw l0 x13_1).f1).length c102_1)) (fun _ hk=>hk.2) (.slice A102_2 ((kw l0 x13_1).f2).length c102_2)) (fun _ hk=>hk.2) (.slice A102_3 ((kw l0 x13_1).f3).length c102_3)) (fun _ hk=>hk.2) (.slice A102_4 ((kw l0 x13_1).f4).length c102_4)) (fun _ h_=>h_.1)))).2.2)|(with_reducible refine Kd.C_alloc ?_ _)|(with_reducible refine Kd.C_drewN ?_ _)|(with_reducible refine Kd.C_drew ?_)));(case side2=>exact HC102_1.out);(case side3=>repeat(first|exact((Kd.V_reads' (by(with_reducible repeat(first|apply Kd.jx|apply Kd.jw|apply Kd.kz));exact(Kd.V_mono (Kd.V_far (p:=⟨gb103,4,none⟩) (Kd.V_far (p:=⟨gb103,3,none⟩) (Kd.V_far (p:=⟨gb103,2,none⟩) (Kd.V_far (p:=⟨gb103,1,none⟩) (Kd.V_far (p:=⟨gb103,0,none⟩) (Kd.V_mono HL102_2.out (fun k_ hk=>(⟨hk,hk.2⟩ : _∧k_≠gb103))) (fun _ hk=>hk.2) (.string ((kw l0 x13_1).f0))) (fun _ hk=>hk.2) (.slice A102_1 ((kw l0 x13_1).f1).length c102_1)) (fun _ hk=>hk.2) (.slice A102_2 ((kw l0 x13_1).f2).length c102_2)) (fun _ hk=>hk.2) (.slice A102_3 ((kw l0 x13_1).f3).length c102_3)) (fun _ hk=>hk.2) (.slice A102_4 ((kw l0 x13_1).f4).length c102_4)) (fun _ h_=>h_.1)))).2.2)|(with_reducible refine Kd.C_alloc ?_ _)|(with_reducible refine Kd.C_drewN ?_ _)|(with_reducible refine Kd.C_drew ?_)));(case side4=>exact HC102_2.out);(case side5=>repeat(first|exact((Kd.V_reads' (by(with_reducible repeat(first|apply Kd.jx|apply Kd.jw|apply Kd.kz));exact(Kd.V_mono (Kd.V_far (p:=⟨gb103,4,none⟩) (Kd.V_far (p:=⟨gb103,3,none⟩) (Kd.V_far (p:=⟨gb103,2,none⟩) (Kd.V_far (p:=⟨gb103,1,none⟩) (Kd.V_far (p:=⟨gb103,0,none⟩) (Kd.V_mono HL102_3.out (fun k_ hk=>(⟨hk,hk.2⟩ : _∧k_≠gb103))) (fun _ hk=>hk.2) (.string ((kw l0 x13_1).f0))) (fun _ hk=>hk.2) (.slice A102_1 ((kw l0 x13_1).f1).length c102_1)) (fun _ hk=>hk.2) (.slice A102_2 ((kw l0 x13_1).f2).length c102_2)) (fun _ hk=>hk.2) (.slice A102_3 ((kw l0 x13_1).f3).length c102_3)) (fun _ hk=>hk.2) (.slice A102_4 ((kw l0 x13_1).f4).length c102_4)) (fun _ h_=>h_.1)))).2.2)|(with_reducible refine Kd.C_alloc ?_ _)|(with_reducible refine Kd.C_drewN ?_ _)|(with_reducible refine Kd.C_drew ?_)));(case side6=>exact HC102_3.out);(case side7=>repeat(first|exact((Kd.V_reads' (by(with_reducible repeat(first|apply Kd.jx|apply Kd.jw|apply Kd.kz));exact(Kd.V_mono (Kd.V_far (p:=⟨gb103,4,none⟩) (Kd.V_far (p:=⟨gb103,3,none⟩) (Kd.V_far (p:=⟨gb103,2,none⟩) (Kd.V_far (p:=⟨gb103,1,none⟩) (Kd.V_far (p:=⟨gb103,0,none⟩) (Kd.V_mono HL102_4.out (fun k_ hk=>(⟨hk,hk.2⟩ : _∧k_≠gb103))) (fun _ hk=>hk.2) (.string ((kw l0 x13_1).f0))) (fun _ hk=>hk.2) (.slice A102_1 ((kw l0 x13_1).f1).length c102_1)) (fun _ hk=>hk.2) (.slice A102_2 ((kw l0 x13_1).f2).length c102_2)) (fun _ hk=>hk.2) (.slice A102_3 ((kw l0 x13_1).f3).length c102_3)) (fun _ hk=>hk.2) (.slice A102_4 ((kw l0 x13_1).f4).length c102_4)) (fun _ h_=>h_.1)))).2.2)|(with_reducible refine Kd.C_alloc ?_ _)|(with_reducible refine Kd.C_drewN ?_ _)|(with_reducible refine Kd.C_drew ?_)));(case side8=>exact HC102_4.out);rintro e w13 ⟨rfl,hb⟩;skip;replace HO_11:=X.mk (Kd.V_below (by(with_reducible repeat(first|apply Kd.jx|apply Kd.jw|apply Kd.kz));exact(Kd.V_mono (Kd.V_far (p:=⟨gb103,4,none⟩) (Kd.V_far (p:=⟨gb103,3,none⟩) (Kd.V_far (p:=⟨gb103,2,none⟩) (Kd.V_far (p:=⟨gb103,1,none⟩) (Kd.V_far (p:=⟨gb103,0,none⟩) (Kd.V_mono HO_11.out (fun k_ hk=>(⟨hk,hk.2⟩ : _∧k_≠gb103))) (fun _ hk=>hk.2) (.string ((kw l0 x13_1).f0))) (fun _ hk=>hk.2) (.slice A102_1 ((kw l0 x13_1).f1).length c102_1)) (fun _ hk=>hk.2) (.slice A102_2 ((kw l0 x13_1).f2).length c102_2)) (fun _ hk=>hk.2) (.slice A102_3 ((kw l0 x13_1).f3).length c102_3)) (fun _ hk=>hk.2) (.slice A102_4 ((kw l0 x13_1).f4).length c102_4)) (fun _ h_=>h_.1))) hb);replace BK101:=X.mk (kj (g:=gb101) (o:=.cells #[.string x102000_1,.slice none 0 0,.slice none 0 0,.slice none 0 0,.slice none 0 0] 77 (0,0)) (by(with_reducible repeat(first|refine qj ?_ _|refine qk ?_|refine qz ?_ _));refine blk_far ?_ NB101_103.out _;(with_reducible repeat(first|refine qj ?_ _|refine qk ?_|refine qz ?_ _));refine blk_far ?_ NB101_103.out _;(with_reducible repeat(first|refine qj ?_ _|refine qk ?_|refine qz ?_ _));refine blk_far ?_ NB101_103.out _;(with_reducible repeat(first|refine qj ?_ _|refine qk ?_|refine qz ?_ _));refine blk_far ?_ NB101_103.out _;(with_reducible repeat(first|refine qj ?_ _|refine qk ?_|refine qz ?_ _));refine blk_far ?_ NB101_103.out _;(with_reducible repeat(first|refine qj ?_ _|refine qk ?_|refine qz ?_ _));exact BK101.out) hb);replace HR102_1:=X.mk (Kd.C_below ((Kd.V_reads' (by(with_reducible repeat(first|apply Kd.jx|apply Kd.jw|apply Kd.kz));exact(Kd.V_mono (Kd.V_far (p:=⟨gb103,4,none⟩) (Kd.V_far (p:=⟨gb103,3,none⟩) (Kd.V_far (p:=⟨gb103,2,none⟩) (Kd.V_far (p:=⟨gb103,1,none⟩) (Kd.V_far (p:=⟨gb103,0,none⟩) (Kd.V_mono HL102_1.out (fun k_ hk=>(⟨hk,hk.2⟩ : _∧k_≠gb103))) (fun _ hk=>hk.2) (.string ((kw l0 x13_1).f0))) (fun _ hk=>hk.2) (.slice A102_1 ((kw l0 x13_1).f1).length c102_1)) (fun _ hk=>hk.2) (.slice A102_2 ((kw l0 x13_1).f2).length c102_2)) (fun _ hk=>hk.2) (.slice A102_3 ((kw l0 x13_1).f3).length c102_3)) (fun _ hk=>hk.2) (.slice A102_4 ((kw l0 x13_1).f4).length c102_4)) (fun _ h_=>h_.1)))).2.2) hb);replace HL102_1:=X.mk (Kd.V_below (by(with_reducible repeat(first|apply Kd.jx|apply Kd.jw|apply Kd.kz));exact(Kd.V_mono (Kd.V_far (p:=⟨gb103,4,none⟩) (Kd.V_far (p:=⟨gb103,3,none⟩) (Kd.V_far (p:=⟨gb103,2,none⟩) (Kd.V_far (p:=⟨gb103,1,none⟩) (Kd.V_far (p:=⟨gb103,0,none⟩) (Kd.V_mono HL102_1.out (fun k_ hk=>(⟨hk,hk.2⟩ : _∧k_≠gb103))) (fun _ hk=>hk.2) (.string ((kw l0 x13_1).f0))) (fun _ hk=>hk.2) (.slice A102_1 ((kw l0 x13_1).f1).length c102_1)) (fun _ hk=>hk.2) (.slice A102_2 ((kw l0 x13_1).f2).length c102_2)) (fun _ hk=>hk.2) (.slice A102_3 ((kw l0 x13_1).f3).length c102_3)) (fun _ hk=>hk.2) (.slice A102_4 ((kw l0 x13_1).f4).length c102_4)) (fun _ h_=>h_.1))) hb);replace HR102_2:=X.mk (Kd.C_below ((Kd.V_reads' (by(with_reducible repeat(first|apply Kd.jx|apply Kd.jw|apply Kd.kz));exact(Kd.V_mono (Kd.V_far (p:=⟨gb103,4,none⟩) (Kd.V_far (p:=⟨gb103,3,none⟩) (Kd.V_far (p:=⟨gb103,2,none⟩) (Kd.V_far (p:=⟨gb103,1,none⟩) (Kd.V_far (p:=⟨gb103,0,none⟩) (Kd.V_mono HL102_2.out (fun k_ hk=>(⟨hk,hk.2⟩ : _∧k_≠gb103))) (fun _ hk=>hk.2) (.string ((kw l0 x13_1).f0))) (fun _ hk=>hk.2) (.slice A102_1 ((kw l0 x13_1).f1).length c102_1)) (fun _ hk=>hk.2) (.slice A102_2 ((kw l0 x13_1).f2).length c102_2)) (fun _ hk=>hk.2) (.slice A102_3 ((kw l0 x13_1).f3).length c102_3)) (fun _ hk=>hk.2) (.slice A102_4 ((kw l0 x13_1).f4).length c102_4)) (fun _ h_=>h_.1)))).2.2) hb);replace HL102_2:=X.mk (Kd.V_below (by(with_reducible repeat(first|apply Kd.jx|apply Kd.jw|apply Kd.kz));exact(Kd.V_mono (Kd.V_far (p:=⟨gb103,4,none⟩) (Kd.V_far (p:=⟨gb103,3,none⟩) (Kd.V_far (p:=⟨gb103,2,none⟩) (Kd.V_far (p:=⟨gb103,1,none⟩) (Kd.V_far (p:=⟨gb103,0,none⟩) (Kd.V_mono HL102_2.out (fun k_ hk=>(⟨hk,hk.2⟩ : _∧k_≠gb103))) (fun _ hk=>hk.2) (.string ((kw l0 x13_1).f0))) (fun _ hk=>hk.2) (.slice A102_1 ((kw l0 x13_1).f1).length c102_1)) (fun _ hk=>hk.2) (.slice A102_2 ((kw l0 x13_1).f2).length c102_2)) (fun _ hk=>hk.2) (.slice A102_3 ((kw l0 x13_1).f3).length c102_3)) (fun _ hk=>hk.2) (.slice A102_4 ((kw l0 x13_1).f4).length c102_4)) (fun _ h_=>h_.1))) hb);replace HR102_3:=X.mk (Kd.C_below ((Kd.V_reads' (by(with_reducible repeat(first|apply Kd.jx|apply Kd.jw|apply Kd.kz));exact(Kd.V_mono (Kd.V_far (p:=⟨gb103,4,none⟩) (Kd.V_far (p:=⟨gb103,3,none⟩) (Kd.V_far (p:=⟨gb103,2,none⟩) (Kd.V_far (p:=⟨gb103,1,none⟩) (Kd.V_far (p:=⟨gb103,0,none⟩) (Kd.V_mono HL102_3.out (fun k_ hk=>(⟨hk,hk.2⟩ : _∧k_≠gb103))) (fun _ hk=>hk.2) (.string ((kw l0 x13_1).f0))) (fun _ hk=>hk.2) (.slice A102_1 ((kw l0 x13_1).f1).length c102_1)) (fun _ hk=>hk.2) (.slice A102_2 ((kw l0 x13_1).f2).length c102_2)) (fun _ hk=>hk.2) (.slice A102_3 ((kw l0 x13_1).f3).length c102_3)) (fun _ hk=>hk.2) (.slice A102_4 ((kw l0 x13_1).f4).length c102_4)) (fun _ h_=>h_.1)))).2.2) hb);replace HL102_3:=X.mk (Kd.V_below (by(with_reducible repeat(first|apply Kd.jx|apply Kd.jw|apply Kd.kz));exact(Kd.V_mono (Kd.V_far (p:=⟨gb103,4,none⟩) (Kd.V_far (p:=⟨gb103,3,none⟩) (Kd.V_far (p:=⟨gb103,2,none⟩) (Kd.V_far (p:=⟨gb103,1,none⟩) (Kd.V_far (p:=⟨gb103,0,none⟩) (Kd.V_mono HL102_3.out (fun k_ hk=>(⟨hk,hk.2⟩ : _∧k_≠gb103))) (fun _ hk=>hk.2) (.string ((kw l0 x13_1).f0))) (fun _ hk=>hk.2) (.slice A102_1 ((kw l0 x13_1).f1).length c102_1)) (fun _ hk=>hk.2) (.slice A102_2 ((kw l0 x13_1).f2).length c102_2)) (fun _ hk=>hk.2) (.slice A102_3 ((kw l0 x13_1).f3).length c102_3)) (fun _ hk=>hk.2) (.slice A102_4 ((kw l0 x13_1).f4).length c102_4)) (fun _ h_=>h_.1))) hb);replace HR102_4:=X.mk (Kd.C_below ((Kd.V_reads' (by(with_reducible repeat(first|apply Kd.jx|apply Kd.jw|apply Kd.kz));exact(Kd.V_mono (Kd.V_far (p:=⟨gb103,4,none⟩) (Kd.V_far (p:=⟨gb103,3,none⟩) (Kd.V_far (p:=⟨gb103,2,none⟩) (Kd.V_far (p:=⟨gb103,1,none⟩) (Kd.V_far (p:=⟨gb103,0,none⟩) (Kd.V_mono HL102_4.out (fun k_ hk=>(⟨hk,hk.2⟩ : _∧k_≠gb103))) (fun _ hk=>hk.2) (.string ((kw l0 x13_1).f0))) (fun _ hk=>hk.2) (.slice A102_1 ((kw l0 x13_1).f1).length c102_1)) (fun _ hk=>hk.2) (.slice A102_2 ((kw l0 x13_1).f2).length c102_2)) (fun _ hk=>hk.2) (.slice A102_3 ((kw l0 x13_1).f3).length c102_3)) (fun _ hk=>hk.2) (.slice A102_4 ((kw l0 x13_1).f4).length c102_4)) (fun _ h_=>h_.1)))).2.2) hb);replace HL102_4:=X.mk (Kd.V_below (by(with_reducible repeat(first|apply Kd.jx|apply Kd.jw|apply Kd.kz));exact(Kd.V_mono (Kd.V_far (p:=⟨gb103,4,none⟩) (Kd.V_far (p:=⟨gb103,3,none⟩) (Kd.V_far (p:=⟨gb103,2,none⟩) (Kd.V_far (p:=⟨gb103,1,none⟩) (Kd.V_far (p:=⟨gb103,0,none⟩) (Kd.V_mono HL102_4.out (fun k_ hk=>(⟨hk,hk.2⟩ : _∧k_≠gb103))) (fun _ hk=>hk.2) (.string ((kw l0 x13_1).f0))) (fun _ hk=>hk.2) (.slice A102_1 ((kw l0 x13_1).f1).length c102_1)) (fun _ hk=>hk.2) (.slice A102_2 ((kw l0 x13_1).f2).length c102_2)) (fun _ hk=>hk.2) (.slice A102_3 ((kw l0 x13_1).f3).length c102_3)) (fun _ hk=>hk.2) (.slice A102_4 ((kw l0 x13_1).f4).length c102_4)) (fun _ h_=>h_.1))) hb);replace BK103:=X.mk (kj (g:=gb103) (o:=.cells #[.string ((kw l0 x13_1).f0),.slice A102_1 ((kw l0 x13_1).f1).length c102_1,.slice A102_2 ((kw l0 x13_1).f2).length c102_2,.slice A102_3 ((kw l0 x13_1).f3).length c102_3,.slice A102_4 ((kw l0 x13_1).f4).length c102_4] 77 (0,0)) (by(with_reducible repeat(first|refine qj ?_ _|refine qk ?_|refine qz ?_ _));refine blk_put (cs:=#[.string ((kw l0 x13_1).f0),.slice A102_1 ((kw l0 x13_1).f1).length c102_1,.slice A102_2 ((kw l0 x13_1).f2).length c102_2,.slice A102_3 ((kw l0 x13_1).f3).length c102_3,.slice none 0 0]) ?_ 4 _ rfl;(with_reducible repeat(first|refine qj ?_ _|refine qk ?_|refine qz ?_ _));refine blk_put (cs:=#[.string ((kw l0 x13_1).f0),.slice A102_1 ((kw l0 x13_1).f1).length c102_1,.slice A102_2 ((kw l0 x13_1).f2).length c102_2,.slice none 0 0,.slice none 0 0]) ?_ 3 _ rfl;(with_reducible repeat(first|refine qj ?_ _|refine qk ?_|refine qz ?_ _));refine blk_put (cs:=#[.string ((kw l0 x13_1).f0),.slice A102_1 ((kw l0 x13_1).f1).length c102_1,.slice none 0 0,.slice none 0 0,.slice none 0 0]) ?_ 2 _ rfl;(with_reducible repeat(first|refine qj ?_ _|refine qk ?_|refine qz ?_ _));refine blk_put (cs:=#[.string ((kw l0 x13_1).f0),.slice none 0 0,.slice none 0 0,.slice none 0 0,.slice none 0 0]) ?_ 1 _ rfl;(with_reducible repeat(first|refine qj ?_ _|refine qk ?_|refine qz ?_ _));refine blk_put (cs:=#[.string (⟨#[]⟩ : ByteArray),.slice none 0 0,.slice none 0 0,.slice none 0 0,.slice none 0 0]) ?_ 0 _ rfl;(with_reducible repeat(first|refine qj ?_ _|refine qk ?_|refine qz ?_ _));exact BK103.out) hb);replace HB:=X.mk (qw (by solve_by_elim (maxDepth:=20) only[HB.out,O,U,L,qq,GE101.out,qq,GE103.out]) hb);(try clear hb);have hcz14_0:w13.cell? ⟨gb103,0,none⟩ = some (.string ((kw l0 x13_1).f0)):=(I BK103.out 0).trans rfl;have hcz14_1:w13.cell? ⟨gb103,1,none⟩ = some (.slice A102_1 ((kw l0 x13_1).f1).length c102_1):=(I BK103.out 1).trans rfl;have hcz14_2:w13.cell? ⟨gb103,2,none⟩ = some (.slice A102_2 ((kw l0 x13_1).f2).length c102_2):=(I BK103.out 2).trans rfl;have hcz14_3:w13.cell? ⟨gb103,3,none⟩ = some (.slice A102_3 ((kw l0 x13_1).f3).length c102_3):=(I BK103.out 3).trans rfl;have hcz14_4:w13.cell? ⟨gb103,4,none⟩ = some (.slice A102_4 ((kw l0 x13_1).f4).length c102_4):=(I BK103.out 4).trans rfl;have hfz14_0:=J BK103.out 0;have hfz14_1:=J BK103.out 1;have hfz14_2:=J BK103.out 2;have hfz14_3:=J BK103.out 3;have hfz14_4:=J BK103.out 4;have hcz15_0:w13.cell? ⟨gb101,0,none⟩ = some (.string x102000_1):=(I BK101.out 0).trans rfl;have hcz15_1:w13.cell? ⟨gb101,1,none⟩ = some (.slice none 0 0):=(I BK101.out 1).trans rfl;have hcz15_2:w13.cell? ⟨gb101,2,none⟩ = some (.slice none 0 0):=(I BK101.out 2).trans rfl;have hcz15_3:w13.cell? ⟨gb101,3,none⟩ = some (.slice none 0 0):=(I BK101.out 3).trans rfl;have hcz15_4:w13.cell? ⟨gb101,4,none⟩ = some (.slice none 0 0):=(I BK101.out 4).trans rfl;have hfz15_0:=J BK101.out 0;have hfz15_1:=J BK101.out 1;have hfz15_2:=J BK101.out 2;have hfz15_3:=J BK101.out 3;have hfz15_4:=J BK101.out 4))
       refine bodyPost_ret (results_ct rfl _ _ gb101 77 #[.string ((kw l0 x13_1).f0),.slice A102_1 ((kw l0 x13_1).f1).length c102_1,.slice A102_2 ((kw l0 x13_1).f2).length c102_2,.slice A102_3 ((kw l0 x13_1).f3).length c102_3,.slice A102_4 ((kw l0 x13_1).f4).length c102_4] (0,0) _ rfl (by(with_reducible repeat(first|refine qj ?_ _|refine qk ?_|refine qz ?_ _));refine blk_put (cs:=#[.string ((kw l0 x13_1).f0),.slice A102_1 ((kw l0 x13_1).f1).length c102_1,.slice A102_2 ((kw l0 x13_1).f2).length c102_2,.slice A102_3 ((kw l0 x13_1).f3).length c102_3,.slice none 0 0]) ?_ 4 _ rfl;(with_reducible repeat(first|refine qj ?_ _|refine qk ?_|refine qz ?_ _));refine blk_put (cs:=#[.string ((kw l0 x13_1).f0),.slice A102_1 ((kw l0 x13_1).f1).length c102_1,.slice A102_2 ((kw l0 x13_1).f2).length c102_2,.slice none 0 0,.slice none 0 0]) ?_ 3 _ rfl;(with_reducible repeat(first|refine qj ?_ _|refine qk ?_|refine qz ?_ _));refine blk_put (cs:=#[.string ((kw l0 x13_1).f0),.slice A102_1 ((kw l0 x13_1).f1).length c102_1,.slice none 0 0,.slice none 0 0,.slice none 0 0]) ?_ 2 _ rfl;(with_reducible repeat(first|refine qj ?_ _|refine qk ?_|refine qz ?_ _));refine blk_put (cs:=#[.string ((kw l0 x13_1).f0),.slice none 0 0,.slice none 0 0,.slice none 0 0,.slice none 0 0]) ?_ 1 _ rfl;(with_reducible repeat(first|refine qj ?_ _|refine qk ?_|refine qz ?_ _));refine blk_put (cs:=#[.string x102000_1,.slice none 0 0,.slice none 0 0,.slice none 0 0,.slice none 0 0]) ?_ 0 _ rfl;(with_reducible repeat(first|refine qj ?_ _|refine qk ?_|refine qz ?_ _));exact BK101.out) Try.underlying77 rfl (by kernel_rfl)) rfl ?_
       exact⟨_,_,_,_,by first|rfl|(simp[*,zv,zk] <;> rfl),by(with_reducible repeat(first|apply Kd.jx|apply Kd.jw|apply Kd.kz));exact Kd.V_mono (Kd.V_far (p:=⟨gb101,4,none⟩) (Kd.V_far (p:=⟨gb101,3,none⟩) (Kd.V_far (p:=⟨gb101,2,none⟩) (Kd.V_far (p:=⟨gb101,1,none⟩) (Kd.V_far (p:=⟨gb101,0,none⟩) (Kd.V_mono HL102_1.out (fun k_ hk=>(⟨hk,hk.1.2⟩ : _∧k_≠gb101))) (fun _ hk=>hk.2) (.string ((kw l0 x13_1).f0))) (fun _ hk=>hk.2) (.slice A102_1 ((kw l0 x13_1).f1).length c102_1)) (fun _ hk=>hk.2) (.slice A102_2 ((kw l0 x13_1).f2).length c102_2)) (fun _ hk=>hk.2) (.slice A102_3 ((kw l0 x13_1).f3).length c102_3)) (fun _ hk=>hk.2) (.slice A102_4 ((kw l0 x13_1).f4).length c102_4)) (fun _ hk=>hk.1.1.1),by(with_reducible repeat(first|apply Kd.jx|apply Kd.jw|apply Kd.kz));exact Kd.V_mono (Kd.V_far (p:=⟨gb101,4,none⟩) (Kd.V_far (p:=⟨gb101,3,none⟩) (Kd.V_far (p:=⟨gb101,2,none⟩) (Kd.V_far (p:=⟨gb101,1,none⟩) (Kd.V_far (p:=⟨gb101,0,none⟩) (Kd.V_mono HL102_2.out (fun k_ hk=>(⟨hk,hk.1.2⟩ : _∧k_≠gb101))) (fun _ hk=>hk.2) (.string ((kw l0 x13_1).f0))) (fun _ hk=>hk.2) (.slice A102_1 ((kw l0 x13_1).f1).length c102_1)) (fun _ hk=>hk.2) (.slice A102_2 ((kw l0 x13_1).f2).length c102_2)) (fun _ hk=>hk.2) (.slice A102_3 ((kw l0 x13_1).f3).length c102_3)) (fun _ hk=>hk.2) (.slice A102_4 ((kw l0 x13_1).f4).length c102_4)) (fun _ hk=>hk.1.1.1),by(with_reducible repeat(first|apply Kd.jx|apply Kd.jw|apply Kd.kz));exact Kd.V_mono (Kd.V_far (p:=⟨gb101,4,none⟩) (Kd.V_far (p:=⟨gb101,3,none⟩) (Kd.V_far (p:=⟨gb101,2,none⟩) (Kd.V_far (p:=⟨gb101,1,none⟩) (Kd.V_far (p:=⟨gb101,0,none⟩) (Kd.V_mono HL102_3.out (fun k_ hk=>(⟨hk,hk.1.2⟩ : _∧k_≠gb101))) (fun _ hk=>hk.2) (.string ((kw l0 x13_1).f0))) (fun _ hk=>hk.2) (.slice A102_1 ((kw l0 x13_1).f1).length c102_1)) (fun _ hk=>hk.2) (.slice A102_2 ((kw l0 x13_1).f2).length c102_2)) (fun _ hk=>hk.2) (.slice A102_3 ((kw l0 x13_1).f3).length c102_3)) (fun _ hk=>hk.2) (.slice A102_4 ((kw l0 x13_1).f4).length c102_4)) (fun _ hk=>hk.1.1.1),by(with_reducible repeat(first|apply Kd.jx|apply Kd.jw|apply Kd.kz));exact Kd.V_mono (Kd.V_far (p:=⟨gb101,4,none⟩) (Kd.V_far (p:=⟨gb101,3,none⟩) (Kd.V_far (p:=⟨gb101,2,none⟩) (Kd.V_far (p:=⟨gb101,1,none⟩) (Kd.V_far (p:=⟨gb101,0,none⟩) (Kd.V_mono HL102_4.out (fun k_ hk=>(⟨hk,hk.1.2⟩ : _∧k_≠gb101))) (fun _ hk=>hk.2) (.string ((kw l0 x13_1).f0))) (fun _ hk=>hk.2) (.slice A102_1 ((kw l0 x13_1).f1).length c102_1)) (fun _ hk=>hk.2) (.slice A102_2 ((kw l0 x13_1).f2).length c102_2)) (fun _ hk=>hk.2) (.slice A102_3 ((kw l0 x13_1).f3).length c102_3)) (fun _ hk=>hk.2) (.slice A102_4 ((kw l0 x13_1).f4).length c102_4)) (fun _ hk=>hk.1.1.1),by repeat(first|(with_reducible first|exact HB.out|apply O|apply U|apply L|refine qq ?_ GE101.out|refine qq ?_ GE103.out)|exact HB.out)⟩
      ·rw[if_neg c9] at H
       have c9b0:(t104.toList == a2.toList)=false:=beq_eq_false_iff_ne.mpr c9
       have c9b1:(t104.toList != a2.toList)=true:=bne_iff_ne.mpr c9
       have H':=X.mk H
       clear H
       have p102 : 0≤(x13_1:Int):=of_decide_eq_true (by assumption)
       have q102:x13_1 < (l0.length:Int):=of_decide_eq_true (by assumption)
       obtain⟨ad102,A102_1,c102_1,A102_2,c102_2,A102_3,c102_3,A102_4,c102_4,e102,hx102_0,hx102_1,hx102_2,hx102_3,hx102_4,hl102_1,hi102_1,hl102_2,hi102_2,hl102_3,hi102_3,hl102_4,hi102_4⟩:=at_T77 (Kd.V_reads' HO_11.out).2.2 x13_1 p102 q102
       cases e102
       obtain⟨ce102,hce102,hMe102,hcc102⟩:=Kd.V_get HO_11.out z77 x13_1 p102 (by first|exact q102|exact of_decide_eq_true (by assumption)|(have e_:=(Kd.V_reads' HO_11.out).1;omega))
       obtain⟨ua102_1,uc102_1,ua102_2,uc102_2,ua102_3,uc102_3,ua102_4,uc102_4,rfl,ul102_1,ge102_1,ul102_2,ge102_2,ul102_3,ge102_3,ul102_4,ge102_4⟩:=k77_openF hMe102
       have hv102_1:=hcc102 1 _ rfl
       rw[add_field _ _ 1 (by omega)] at hv102_1
       replace hv102_1:=Option.some.inj (hv102_1.symm.trans hx102_1)
       injection hv102_1 with hva_ hvn_ hvc_
       rw[hva_] at ge102_1
       rw[hvc_] at ul102_1
       have HL102_1:=X.mk (show Kd.V (Kd.int .u8) 5 _ w.heap.size _ _ ((kw l0 x13_1).f1) from Kd.V_mk ul102_1 ge102_1)
       clear hva_ hvn_ hvc_ ge102_1 ul102_1
       have hv102_2:=hcc102 2 _ rfl
       rw[add_field _ _ 2 (by omega)] at hv102_2
       replace hv102_2:=Option.some.inj (hv102_2.symm.trans hx102_2)
       injection hv102_2 with hva_ hvn_ hvc_
       rw[hva_] at ge102_2
       rw[hvc_] at ul102_2
       have HL102_2:=X.mk (show Kd.V Kd.string 9 _ w.heap.size _ _ ((kw l0 x13_1).f2) from Kd.V_mk ul102_2 ge102_2)
       clear hva_ hvn_ hvc_ ge102_2 ul102_2
       have hv102_3:=hcc102 3 _ rfl
       rw[add_field _ _ 3 (by omega)] at hv102_3
       replace hv102_3:=Option.some.inj (hv102_3.symm.trans hx102_3)
       injection hv102_3 with hva_ hvn_ hvc_
       rw[hva_] at ge102_3
       rw[hvc_] at ul102_3
       have HL102_3:=X.mk (show Kd.V Kd.string 9 _ w.heap.size _ _ ((kw l0 x13_1).f3) from Kd.V_mk ul102_3 ge102_3)
       clear hva_ hvn_ hvc_ ge102_3 ul102_3
       have hv102_4:=hcc102 4 _ rfl
       rw[add_field _ _ 4 (by omega)] at hv102_4
       replace hv102_4:=Option.some.inj (hv102_4.symm.trans hx102_4)
       injection hv102_4 with hva_ hvn_ hvc_
       rw[hva_] at ge102_4
       rw[hvc_] at ul102_4
       have HL102_4:=X.mk (show Kd.V (Kd.int .i64) 3 _ w.heap.size _ _ ((kw l0 x13_1).f4) from Kd.V_mk ul102_4 ge102_4)
       clear hva_ hvn_ hvc_ ge102_4 ul102_4
       clear hcc102 hce102
       have HR102_1:=X.mk hi102_1
       have HC102_1:=X.mk hl102_1
       clear hi102_1 hl102_1
       have HR102_2:=X.mk hi102_2
       have HC102_2:=X.mk hl102_2
       clear hi102_2 hl102_2
       have HR102_3:=X.mk hi102_3
       have HC102_3:=X.mk hl102_3
       clear hi102_3 hl102_3
       have HR102_4:=X.mk hi102_4
       have HC102_4:=X.mk hl102_4
       clear hi102_4 hl102_4
       replace p102:=eq_true p102
       replace q102:=eq_true q102
       go_wp2_with (first|((with_reducible refine gate_dst (N:=9) rfl ?_);refine box_event ?hg (N:=9) ?hd (cs:=#[.string (⟨#[]⟩ : ByteArray),.slice none 0 0,.slice none 0 0,.slice none 0 0,.slice none 0 0]) (t:=77) ?hr ?_;(case hd=>rfl);(case hg=>rfl);(case hr=>first|(go_simp;done)|(go_simp;rfl));intro gb103 hg w16 hbox hb;replace HO_11:=X.mk (Kd.V_below (Kd.V_elderB (by(with_reducible repeat(first|apply Kd.jx|apply Kd.jw|apply Kd.kz));exact HO_11.out) gb103 (Nat.le_of_eq hg.symm)) hb);replace HL102_1:=X.mk (Kd.V_below (Kd.V_elderB (by(with_reducible repeat(first|apply Kd.jx|apply Kd.jw|apply Kd.kz));exact HL102_1.out) gb103 (Nat.le_of_eq hg.symm)) hb);replace HL102_2:=X.mk (Kd.V_below (Kd.V_elderB (by(with_reducible repeat(first|apply Kd.jx|apply Kd.jw|apply Kd.kz));exact HL102_2.out) gb103 (Nat.le_of_eq hg.symm)) hb);replace HL102_3:=X.mk (Kd.V_below (Kd.V_elderB (by(with_reducible repeat(first|apply Kd.jx|apply Kd.jw|apply Kd.kz));exact HL102_3.out) gb103 (Nat.le_of_eq hg.symm)) hb);replace HL102_4:=X.mk (Kd.V_below (Kd.V_elderB (by(with_reducible repeat(first|apply Kd.jx|apply Kd.jw|apply Kd.kz));exact HL102_4.out) gb103 (Nat.le_of_eq hg.symm)) hb);replace HR102_1:=X.mk (Kd.C_below (by repeat(first|(with_reducible exact HR102_1.out)|(with_reducible refine Kd.C_alloc ?_ _)|(with_reducible refine Kd.C_drewN ?_ _)|(with_reducible refine Kd.C_drew ?_)|exact HR102_1.out)) hb);replace HR102_2:=X.mk (Kd.C_below (by repeat(first|(with_reducible exact HR102_2.out)|(with_reducible refine Kd.C_alloc ?_ _)|(with_reducible refine Kd.C_drewN ?_ _)|(with_reducible refine Kd.C_drew ?_)|exact HR102_2.out)) hb);replace HR102_3:=X.mk (Kd.C_below (by repeat(first|(with_reducible exact HR102_3.out)|(with_reducible refine Kd.C_alloc ?_ _)|(with_reducible refine Kd.C_drewN ?_ _)|(with_reducible refine Kd.C_drew ?_)|exact HR102_3.out)) hb);replace HR102_4:=X.mk (Kd.C_below (by repeat(first|(with_reducible exact HR102_4.out)|(with_reducible refine Kd.C_alloc ?_ _)|(with_reducible refine Kd.C_drewN ?_ _)|(with_reducible refine Kd.C_drew ?_)|exact HR102_4.out)) hb);have BK103:=X.mk (hbox);have GW103:=X.mk ((by rw[hg];exact(qx (by solve_by_elim (maxDepth:=20) only[HB.out,O,U,L,qq,GE101.out])):w.heap.size≤gb103));have GE103:=X.mk ((by rw[hg];exact(qx (by solve_by_elim (maxDepth:=20) only[HB.out,O,U,L,qq,GE101.out])):w.heap.size≤gb103));replace HB:=X.mk (qw (by solve_by_elim (maxDepth:=20) only[HB.out,O,U,L,qq,GE101.out]) hb);have NB101_103:=X.mk ((by rw[hg];exact Nat.ne_of_lt (blk_lt (g:=gb101) (o:=.cells #[.string x102000_1,.slice none 0 0,.slice none 0 0,.slice none 0 0,.slice none 0 0] 77 (0,0)) (by solve_by_elim only[BK101.out,qj,qk,qz])):gb101≠gb103));have NB103_101:=X.mk ((by rw[hg];exact Nat.ne_of_gt (blk_lt (g:=gb101) (o:=.cells #[.string x102000_1,.slice none 0 0,.slice none 0 0,.slice none 0 0,.slice none 0 0] 77 (0,0)) (by solve_by_elim only[BK101.out,qj,qk,qz])):gb103≠gb101));replace BK101:=X.mk (kj (g:=gb101) (o:=.cells #[.string x102000_1,.slice none 0 0,.slice none 0 0,.slice none 0 0,.slice none 0 0] 77 (0,0)) (by solve_by_elim only[BK101.out,qj,qk,qz]) hb);clear hb hbox hg;have hnb17:=NB103_101.out;have hnc17:=NB101_103.out;have hcz18_0:w16.cell? ⟨gb103,0,none⟩ = some (.string (⟨#[]⟩ : ByteArray)):=(I BK103.out 0).trans rfl;have hcz18_1:w16.cell? ⟨gb103,1,none⟩ = some (.slice none 0 0):=(I BK103.out 1).trans rfl;have hcz18_2:w16.cell? ⟨gb103,2,none⟩ = some (.slice none 0 0):=(I BK103.out 2).trans rfl;have hcz18_3:w16.cell? ⟨gb103,3,none⟩ = some (.slice none 0 0):=(I BK103.out 3).trans rfl;have hcz18_4:w16.cell? ⟨gb103,4,none⟩ = some (.slice none 0 0):=(I BK103.out 4).trans rfl;have hfz18_0:=J BK103.out 0;have hfz18_1:=J BK103.out 1;have hfz18_2:=J BK103.out 2;have hfz18_3:=J BK103.out 3;have hfz18_4:=J BK103.out 4)|(go_at_call 86;(with_reducible refine(vx.calls ((kw l0 x13_1).f0) _ _ ((kw l0 x13_1).f1) _ _ ((kw l0 x13_1).f2) _ _ ((kw l0 x13_1).f3) _ _ ((kw l0 x13_1).f4) t104 _ ?side1 ?side2 ?side3 ?side4 ?side5 ?side6 ?side7 ?side8 A8.out).mono ?_);(case side1=>repeat(first|exact((Kd.V_reads' (by(with_reducible repeat(first|apply Kd.jx|apply Kd.jw|apply Kd.kz));exact(Kd.V_mono (Kd.V_far (p:=⟨gb103,4,none⟩) (Kd.V_far (p:=⟨gb103,3,none⟩) (Kd.V_far (p:=⟨gb103,2,none⟩) (Kd.V_far (p:=⟨gb103,1,none⟩) (Kd.V_far (p:=⟨gb103,0,none⟩) (Kd.V_mono HL102_1.out (fun k_ hk=>(⟨hk,hk.2⟩ : _∧k_≠gb103))) (fun _ hk=>hk.2) (.string ((kw l0 x13_1).f0))) (fun _ hk=>hk.2) (.slice A102_1 ((kw l0 x13_1).f1).length c102_1)) (fun _ hk=>hk.2) (.slice A102_2 ((kw l0 x13_1).f2).length c102_2)) (fun _ hk=>hk.2) (.slice A102_3 ((kw l0 x13_1).f3).length c102_3)) (fun _ hk=>hk.2) (.slice A102_4 ((kw l0 x13_1).f4).length c102_4)) (fun _ h_=>h_.1)))).2.2)|(with_reducible refine Kd.C_alloc ?_ _)|(with_reducible refine Kd.C_drewN ?_ _)|(with_reducible refine Kd.C_drew ?_)));(case side2=>exact HC102_1.out);(case side3=>repeat(first|exact((Kd.V_reads' (by(with_reducible repeat(first|apply Kd.jx|apply Kd.jw|apply Kd.kz));exact(Kd.V_mono (Kd.V_far (p:=⟨gb103,4,none⟩) (Kd.V_far (p:=⟨gb103,3,none⟩) (Kd.V_far (p:=⟨gb103,2,none⟩) (Kd.V_far (p:=⟨gb103,1,none⟩) (Kd.V_far (p:=⟨gb103,0,none⟩) (Kd.V_mono HL102_2.out (fun k_ hk=>(⟨hk,hk.2⟩ : _∧k_≠gb103))) (fun _ hk=>hk.2) (.string ((kw l0 x13_1).f0))) (fun _ hk=>hk.2) (.slice A102_1 ((kw l0 x13_1).f1).length c102_1)) (fun _ hk=>hk.2) (.slice A102_2 ((kw l0 x13_1).f2).length c102_2)) (fun _ hk=>hk.2) (.slice A102_3 ((kw l0 x13_1).f3).length c102_3)) (fun _ hk=>hk.2) (.slice A102_4 ((kw l0 x13_1).f4).length c102_4)) (fun _ h_=>h_.1)))).2.2)|(with_reducible refine Kd.C_alloc ?_ _)|(with_reducible refine Kd.C_drewN ?_ _)|(with_reducible refine Kd.C_drew ?_)));(case side4=>exact HC102_2.out);(case side5=>repeat(first|exact((Kd.V_reads' (by(with_reducible repeat(first|apply Kd.jx|apply Kd.jw|apply Kd.kz));exact(Kd.V_mono (Kd.V_far (p:=⟨gb103,4,none⟩) (Kd.V_far (p:=⟨gb103,3,none⟩) (Kd.V_far (p:=⟨gb103,2,none⟩) (Kd.V_far (p:=⟨gb103,1,none⟩) (Kd.V_far (p:=⟨gb103,0,none⟩) (Kd.V_mono HL102_3.out (fun k_ hk=>(⟨hk,hk.2⟩ : _∧k_≠gb103))) (fun _ hk=>hk.2) (.string ((kw l0 x13_1).f0))) (fun _ hk=>hk.2) (.slice A102_1 ((kw l0 x13_1).f1).length c102_1)) (fun _ hk=>hk.2) (.slice A102_2 ((kw l0 x13_1).f2).length c102_2)) (fun _ hk=>hk.2) (.slice A102_3 ((kw l0 x13_1).f3).length c102_3)) (fun _ hk=>hk.2) (.slice A102_4 ((kw l0 x13_1).f4).length c102_4)) (fun _ h_=>h_.1)))).2.2)|(with_reducible refine Kd.C_alloc ?_ _)|(with_reducible refine Kd.C_drewN ?_ _)|(with_reducible refine Kd.C_drew ?_)));(case side6=>exact HC102_3.out);(case side7=>repeat(first|exact((Kd.V_reads' (by(with_reducible repeat(first|apply Kd.jx|apply Kd.jw|apply Kd.kz));exact(Kd.V_mono (Kd.V_far (p:=⟨gb103,4,none⟩) (Kd.V_far (p:=⟨gb103,3,none⟩) (Kd.V_far (p:=⟨gb103,2,none⟩) (Kd.V_far (p:=⟨gb103,1,none⟩) (Kd.V_far (p:=⟨gb103,0,none⟩) (Kd.V_mono HL102_4.out (fun k_ hk=>(⟨hk,hk.2⟩ : _∧k_≠gb103))) (fun _ hk=>hk.2) (.string ((kw l0 x13_1).f0))) (fun _ hk=>hk.2) (.slice A102_1 ((kw l0 x13_1).f1).length c102_1)) (fun _ hk=>hk.2) (.slice A102_2 ((kw l0 x13_1).f2).length c102_2)) (fun _ hk=>hk.2) (.slice A102_3 ((kw l0 x13_1).f3).length c102_3)) (fun _ hk=>hk.2) (.slice A102_4 ((kw l0 x13_1).f4).length c102_4)) (fun _ h_=>h_.1)))).2.2)|(with_reducible refine Kd.C_alloc ?_ _)|(with_reducible refine Kd.C_drewN ?_ _)|(with_reducible refine Kd.C_drew ?_)));(case side8=>exact HC102_4.out);rintro e w19 ⟨rfl,hb⟩;skip;replace HO_11:=X.mk (Kd.V_below (by(with_reducible repeat(first|apply Kd.jx|apply Kd.jw|apply Kd.kz));exact(Kd.V_mono (Kd.V_far (p:=⟨gb103,4,none⟩) (Kd.V_far (p:=⟨gb103,3,none⟩) (Kd.V_far (p:=⟨gb103,2,none⟩) (Kd.V_far (p:=⟨gb103,1,none⟩) (Kd.V_far (p:=⟨gb103,0,none⟩) (Kd.V_mono HO_11.out (fun k_ hk=>(⟨hk,hk.2⟩ : _∧k_≠gb103))) (fun _ hk=>hk.2) (.string ((kw l0 x13_1).f0))) (fun _ hk=>hk.2) (.slice A102_1 ((kw l0 x13_1).f1).length c102_1)) (fun _ hk=>hk.2) (.slice A102_2 ((kw l0 x13_1).f2).length c102_2)) (fun _ hk=>hk.2) (.slice A102_3 ((kw l0 x13_1).f3).length c102_3)) (fun _ hk=>hk.2) (.slice A102_4 ((kw l0 x13_1).f4).length c102_4)) (fun _ h_=>h_.1))) hb);replace BK101:=X.mk (kj (g:=gb101) (o:=.cells #[.string x102000_1,.slice none 0 0,.slice none 0 0,.slice none 0 0,.slice none 0 0] 77 (0,0)) (by(with_reducible repeat(first|refine qj ?_ _|refine qk ?_|refine qz ?_ _));refine blk_far ?_ NB101_103.out _;(with_reducible repeat(first|refine qj ?_ _|refine qk ?_|refine qz ?_ _));refine blk_far ?_ NB101_103.out _;(with_reducible repeat(first|refine qj ?_ _|refine qk ?_|refine qz ?_ _));refine blk_far ?_ NB101_103.out _;(with_reducible repeat(first|refine qj ?_ _|refine qk ?_|refine qz ?_ _));refine blk_far ?_ NB101_103.out _;(with_reducible repeat(first|refine qj ?_ _|refine qk ?_|refine qz ?_ _));refine blk_far ?_ NB101_103.out _;(with_reducible repeat(first|refine qj ?_ _|refine qk ?_|refine qz ?_ _));exact BK101.out) hb);replace HR102_1:=X.mk (Kd.C_below ((Kd.V_reads' (by(with_reducible repeat(first|apply Kd.jx|apply Kd.jw|apply Kd.kz));exact(Kd.V_mono (Kd.V_far (p:=⟨gb103,4,none⟩) (Kd.V_far (p:=⟨gb103,3,none⟩) (Kd.V_far (p:=⟨gb103,2,none⟩) (Kd.V_far (p:=⟨gb103,1,none⟩) (Kd.V_far (p:=⟨gb103,0,none⟩) (Kd.V_mono HL102_1.out (fun k_ hk=>(⟨hk,hk.2⟩ : _∧k_≠gb103))) (fun _ hk=>hk.2) (.string ((kw l0 x13_1).f0))) (fun _ hk=>hk.2) (.slice A102_1 ((kw l0 x13_1).f1).length c102_1)) (fun _ hk=>hk.2) (.slice A102_2 ((kw l0 x13_1).f2).length c102_2)) (fun _ hk=>hk.2) (.slice A102_3 ((kw l0 x13_1).f3).length c102_3)) (fun _ hk=>hk.2) (.slice A102_4 ((kw l0 x13_1).f4).length c102_4)) (fun _ h_=>h_.1)))).2.2) hb);replace HL102_1:=X.mk (Kd.V_below (by(with_reducible repeat(first|apply Kd.jx|apply Kd.jw|apply Kd.kz));exact(Kd.V_mono (Kd.V_far (p:=⟨gb103,4,none⟩) (Kd.V_far (p:=⟨gb103,3,none⟩) (Kd.V_far (p:=⟨gb103,2,none⟩) (Kd.V_far (p:=⟨gb103,1,none⟩) (Kd.V_far (p:=⟨gb103,0,none⟩) (Kd.V_mono HL102_1.out (fun k_ hk=>(⟨hk,hk.2⟩ : _∧k_≠gb103))) (fun _ hk=>hk.2) (.string ((kw l0 x13_1).f0))) (fun _ hk=>hk.2) (.slice A102_1 ((kw l0 x13_1).f1).length c102_1)) (fun _ hk=>hk.2) (.slice A102_2 ((kw l0 x13_1).f2).length c102_2)) (fun _ hk=>hk.2) (.slice A102_3 ((kw l0 x13_1).f3).length c102_3)) (fun _ hk=>hk.2) (.slice A102_4 ((kw l0 x13_1).f4).length c102_4)) (fun _ h_=>h_.1))) hb);replace HR102_2:=X.mk (Kd.C_below ((Kd.V_reads' (by(with_reducible repeat(first|apply Kd.jx|apply Kd.jw|apply Kd.kz));exact(Kd.V_mono (Kd.V_far (p:=⟨gb103,4,none⟩) (Kd.V_far (p:=⟨gb103,3,none⟩) (Kd.V_far (p:=⟨gb103,2,none⟩) (Kd.V_far (p:=⟨gb103,1,none⟩) (Kd.V_far (p:=⟨gb103,0,none⟩) (Kd.V_mono HL102_2.out (fun k_ hk=>(⟨hk,hk.2⟩ : _∧k_≠gb103))) (fun _ hk=>hk.2) (.string ((kw l0 x13_1).f0))) (fun _ hk=>hk.2) (.slice A102_1 ((kw l0 x13_1).f1).length c102_1)) (fun _ hk=>hk.2) (.slice A102_2 ((kw l0 x13_1).f2).length c102_2)) (fun _ hk=>hk.2) (.slice A102_3 ((kw l0 x13_1).f3).length c102_3)) (fun _ hk=>hk.2) (.slice A102_4 ((kw l0 x13_1).f4).length c102_4)) (fun _ h_=>h_.1)))).2.2) hb);replace HL102_2:=X.mk (Kd.V_below (by(with_reducible repeat(first|apply Kd.jx|apply Kd.jw|apply Kd.kz));exact(Kd.V_mono (Kd.V_far (p:=⟨gb103,4,none⟩) (Kd.V_far (p:=⟨gb103,3,none⟩) (Kd.V_far (p:=⟨gb103,2,none⟩) (Kd.V_far (p:=⟨gb103,1,none⟩) (Kd.V_far (p:=⟨gb103,0,none⟩) (Kd.V_mono HL102_2.out (fun k_ hk=>(⟨hk,hk.2⟩ : _∧k_≠gb103))) (fun _ hk=>hk.2) (.string ((kw l0 x13_1).f0))) (fun _ hk=>hk.2) (.slice A102_1 ((kw l0 x13_1).f1).length c102_1)) (fun _ hk=>hk.2) (.slice A102_2 ((kw l0 x13_1).f2).length c102_2)) (fun _ hk=>hk.2) (.slice A102_3 ((kw l0 x13_1).f3).length c102_3)) (fun _ hk=>hk.2) (.slice A102_4 ((kw l0 x13_1).f4).length c102_4)) (fun _ h_=>h_.1))) hb);replace HR102_3:=X.mk (Kd.C_below ((Kd.V_reads' (by(with_reducible repeat(first|apply Kd.jx|apply Kd.jw|apply Kd.kz));exact(Kd.V_mono (Kd.V_far (p:=⟨gb103,4,none⟩) (Kd.V_far (p:=⟨gb103,3,none⟩) (Kd.V_far (p:=⟨gb103,2,none⟩) (Kd.V_far (p:=⟨gb103,1,none⟩) (Kd.V_far (p:=⟨gb103,0,none⟩) (Kd.V_mono HL102_3.out (fun k_ hk=>(⟨hk,hk.2⟩ : _∧k_≠gb103))) (fun _ hk=>hk.2) (.string ((kw l0 x13_1).f0))) (fun _ hk=>hk.2) (.slice A102_1 ((kw l0 x13_1).f1).length c102_1)) (fun _ hk=>hk.2) (.slice A102_2 ((kw l0 x13_1).f2).length c102_2)) (fun _ hk=>hk.2) (.slice A102_3 ((kw l0 x13_1).f3).length c102_3)) (fun _ hk=>hk.2) (.slice A102_4 ((kw l0 x13_1).f4).length c102_4)) (fun _ h_=>h_.1)))).2.2) hb);replace HL102_3:=X.mk (Kd.V_below (by(with_reducible repeat(first|apply Kd.jx|apply Kd.jw|apply Kd.kz));exact(Kd.V_mono (Kd.V_far (p:=⟨gb103,4,none⟩) (Kd.V_far (p:=⟨gb103,3,none⟩) (Kd.V_far (p:=⟨gb103,2,none⟩) (Kd.V_far (p:=⟨gb103,1,none⟩) (Kd.V_far (p:=⟨gb103,0,none⟩) (Kd.V_mono HL102_3.out (fun k_ hk=>(⟨hk,hk.2⟩ : _∧k_≠gb103))) (fun _ hk=>hk.2) (.string ((kw l0 x13_1).f0))) (fun _ hk=>hk.2) (.slice A102_1 ((kw l0 x13_1).f1).length c102_1)) (fun _ hk=>hk.2) (.slice A102_2 ((kw l0 x13_1).f2).length c102_2)) (fun _ hk=>hk.2) (.slice A102_3 ((kw l0 x13_1).f3).length c102_3)) (fun _ hk=>hk.2) (.slice A102_4 ((kw l0 x13_1).f4).length c102_4)) (fun _ h_=>h_.1))) hb);replace HR102_4:=X.mk (Kd.C_below ((Kd.V_reads' (by(with_reducible repeat(first|apply Kd.jx|apply Kd.jw|apply Kd.kz));exact(Kd.V_mono (Kd.V_far (p:=⟨gb103,4,none⟩) (Kd.V_far (p:=⟨gb103,3,none⟩) (Kd.V_far (p:=⟨gb103,2,none⟩) (Kd.V_far (p:=⟨gb103,1,none⟩) (Kd.V_far (p:=⟨gb103,0,none⟩) (Kd.V_mono HL102_4.out (fun k_ hk=>(⟨hk,hk.2⟩ : _∧k_≠gb103))) (fun _ hk=>hk.2) (.string ((kw l0 x13_1).f0))) (fun _ hk=>hk.2) (.slice A102_1 ((kw l0 x13_1).f1).length c102_1)) (fun _ hk=>hk.2) (.slice A102_2 ((kw l0 x13_1).f2).length c102_2)) (fun _ hk=>hk.2) (.slice A102_3 ((kw l0 x13_1).f3).length c102_3)) (fun _ hk=>hk.2) (.slice A102_4 ((kw l0 x13_1).f4).length c102_4)) (fun _ h_=>h_.1)))).2.2) hb);replace HL102_4:=X.mk (Kd.V_below (by(with_reducible repeat(first|apply Kd.jx|apply Kd.jw|apply Kd.kz));exact(Kd.V_mono (Kd.V_far (p:=⟨gb103,4,none⟩) (Kd.V_far (p:=⟨gb103,3,none⟩) (Kd.V_far (p:=⟨gb103,2,none⟩) (Kd.V_far (p:=⟨gb103,1,none⟩) (Kd.V_far (p:=⟨gb103,0,none⟩) (Kd.V_mono HL102_4.out (fun k_ hk=>(⟨hk,hk.2⟩ : _∧k_≠gb103))) (fun _ hk=>hk.2) (.string ((kw l0 x13_1).f0))) (fun _ hk=>hk.2) (.slice A102_1 ((kw l0 x13_1).f1).length c102_1)) (fun _ hk=>hk.2) (.slice A102_2 ((kw l0 x13_1).f2).length c102_2)) (fun _ hk=>hk.2) (.slice A102_3 ((kw l0 x13_1).f3).length c102_3)) (fun _ hk=>hk.2) (.slice A102_4 ((kw l0 x13_1).f4).length c102_4)) (fun _ h_=>h_.1))) hb);replace BK103:=X.mk (kj (g:=gb103) (o:=.cells #[.string ((kw l0 x13_1).f0),.slice A102_1 ((kw l0 x13_1).f1).length c102_1,.slice A102_2 ((kw l0 x13_1).f2).length c102_2,.slice A102_3 ((kw l0 x13_1).f3).length c102_3,.slice A102_4 ((kw l0 x13_1).f4).length c102_4] 77 (0,0)) (by(with_reducible repeat(first|refine qj ?_ _|refine qk ?_|refine qz ?_ _));refine blk_put (cs:=#[.string ((kw l0 x13_1).f0),.slice A102_1 ((kw l0 x13_1).f1).length c102_1,.slice A102_2 ((kw l0 x13_1).f2).length c102_2,.slice A102_3 ((kw l0 x13_1).f3).length c102_3,.slice none 0 0]) ?_ 4 _ rfl;(with_reducible repeat(first|refine qj ?_ _|refine qk ?_|refine qz ?_ _));refine blk_put (cs:=#[.string ((kw l0 x13_1).f0),.slice A102_1 ((kw l0 x13_1).f1).length c102_1,.slice A102_2 ((kw l0 x13_1).f2).length c102_2,.slice none 0 0,.slice none 0 0]) ?_ 3 _ rfl;(with_reducible repeat(first|refine qj ?_ _|refine qk ?_|refine qz ?_ _));refine blk_put (cs:=#[.string ((kw l0 x13_1).f0),.slice A102_1 ((kw l0 x13_1).f1).length c102_1,.slice none 0 0,.slice none 0 0,.slice none 0 0]) ?_ 2 _ rfl;(with_reducible repeat(first|refine qj ?_ _|refine qk ?_|refine qz ?_ _));refine blk_put (cs:=#[.string ((kw l0 x13_1).f0),.slice none 0 0,.slice none 0 0,.slice none 0 0,.slice none 0 0]) ?_ 1 _ rfl;(with_reducible repeat(first|refine qj ?_ _|refine qk ?_|refine qz ?_ _));refine blk_put (cs:=#[.string (⟨#[]⟩ : ByteArray),.slice none 0 0,.slice none 0 0,.slice none 0 0,.slice none 0 0]) ?_ 0 _ rfl;(with_reducible repeat(first|refine qj ?_ _|refine qk ?_|refine qz ?_ _));exact BK103.out) hb);replace HB:=X.mk (qw (by solve_by_elim (maxDepth:=20) only[HB.out,O,U,L,qq,GE101.out,qq,GE103.out]) hb);(try clear hb)))
       go_roundg k1
       case measure=>have:=HK1.out;omega
       case rel=>exact⟨(wrap64 (x13_1 + 1)),(x102000_1),(by first|rfl|(simp;done)|(simp[*];done)),H',⟨by have:=HK1.out;omega⟩,⟨by(with_reducible repeat(first|apply Kd.jx|apply Kd.jw|apply Kd.kz));exact Kd.V_mono HO_11.out (fun _ hk=>⟨hk.1.1,hk.1.2⟩)⟩,⟨by(with_reducible repeat(first|refine qj ?_ _|refine qk ?_|refine qz ?_ _));exact BK101.out⟩,⟨by repeat(first|(with_reducible first|exact HB.out|apply O|apply U|apply L|refine qq ?_ GE101.out|refine qq ?_ GE103.out)|exact HB.out)⟩⟩
     ·rw[if_neg c7] at H
      exact absurd H (by simp)
    ·rw[if_neg c6] at H
     exact absurd H (by simp)
   ·rw[if_neg c5] at H
    have c5b0:decide (x13_1 < (l0.length:Int))=false:=decide_eq_false c5
    clear c5
    simp only[Option.some.injEq,Prod.mk.injEq] at H
    obtain⟨rfl,rfl,rfl,rfl,rfl,rfl⟩:=H
    go_wp2_with (first|((with_reducible refine gate_dst (N:=10) rfl ?_);refine box_event ?hg (N:=10) ?hd (cs:=#[.string (⟨#[]⟩ : ByteArray),.slice none 0 0,.slice none 0 0,.slice none 0 0,.slice none 0 0]) (t:=77) ?hr ?_;(case hd=>rfl);(case hg=>rfl);(case hr=>first|(go_simp;done)|(go_simp;rfl));intro gb105 hg w20 hbox hb;replace HO_11:=X.mk (Kd.V_below (Kd.V_elderB (by(with_reducible repeat(first|apply Kd.jx|apply Kd.jw|apply Kd.kz));exact HO_11.out) gb105 (Nat.le_of_eq hg.symm)) hb);have BK105:=X.mk (hbox);have GW105:=X.mk ((by rw[hg];exact(qx (by solve_by_elim (maxDepth:=20) only[HB.out,O,U,L,qq,GE101.out])):w.heap.size≤gb105));have GE105:=X.mk ((by rw[hg];exact(qx (by solve_by_elim (maxDepth:=20) only[HB.out,O,U,L,qq,GE101.out])):w.heap.size≤gb105));replace HB:=X.mk (qw (by solve_by_elim (maxDepth:=20) only[HB.out,O,U,L,qq,GE101.out]) hb);have NB101_105:=X.mk ((by rw[hg];exact Nat.ne_of_lt (blk_lt (g:=gb101) (o:=.cells #[.string x102000_1,.slice none 0 0,.slice none 0 0,.slice none 0 0,.slice none 0 0] 77 (0,0)) (by solve_by_elim only[BK101.out,qj,qk,qz])):gb101≠gb105));have NB105_101:=X.mk ((by rw[hg];exact Nat.ne_of_gt (blk_lt (g:=gb101) (o:=.cells #[.string x102000_1,.slice none 0 0,.slice none 0 0,.slice none 0 0,.slice none 0 0] 77 (0,0)) (by solve_by_elim only[BK101.out,qj,qk,qz])):gb105≠gb101));replace BK101:=X.mk (kj (g:=gb101) (o:=.cells #[.string x102000_1,.slice none 0 0,.slice none 0 0,.slice none 0 0,.slice none 0 0] 77 (0,0)) (by solve_by_elim only[BK101.out,qj,qk,qz]) hb);clear hb hbox hg;have hnb21:=NB105_101.out;have hnc21:=NB101_105.out;have hcz22_0:w20.cell? ⟨gb105,0,none⟩ = some (.string (⟨#[]⟩ : ByteArray)):=(I BK105.out 0).trans rfl;have hcz22_1:w20.cell? ⟨gb105,1,none⟩ = some (.slice none 0 0):=(I BK105.out 1).trans rfl;have hcz22_2:w20.cell? ⟨gb105,2,none⟩ = some (.slice none 0 0):=(I BK105.out 2).trans rfl;have hcz22_3:w20.cell? ⟨gb105,3,none⟩ = some (.slice none 0 0):=(I BK105.out 3).trans rfl;have hcz22_4:w20.cell? ⟨gb105,4,none⟩ = some (.slice none 0 0):=(I BK105.out 4).trans rfl;have hfz22_0:=J BK105.out 0;have hfz22_1:=J BK105.out 1;have hfz22_2:=J BK105.out 2;have hfz22_3:=J BK105.out 3;have hfz22_4:=J BK105.out 4;have hcz23_0:w20.cell? ⟨gb101,0,none⟩ = some (.string x102000_1):=(I BK101.out 0).trans rfl;have hcz23_1:w20.cell? ⟨gb101,1,none⟩ = some (.slice none 0 0):=(I BK101.out 1).trans rfl;have hcz23_2:w20.cell? ⟨gb101,2,none⟩ = some (.slice none 0 0):=(I BK101.out 2).trans rfl;have hcz23_3:w20.cell? ⟨gb101,3,none⟩ = some (.slice none 0 0):=(I BK101.out 3).trans rfl;have hcz23_4:w20.cell? ⟨gb101,4,none⟩ = some (.slice none 0 0):=(I BK101.out 4).trans rfl;have hfz23_0:=J BK101.out 0;have hfz23_1:=J BK101.out 1;have hfz23_2:=J BK101.out 2;have hfz23_3:=J BK101.out 3;have hfz23_4:=J BK101.out 4))
    refine bodyPost_ret (results_ct rfl _ _ gb101 77 #[.string (⟨#[]⟩ : ByteArray),.slice none 0 0,.slice none 0 0,.slice none 0 0,.slice none 0 0] (0,0) _ rfl (by(with_reducible repeat(first|refine qj ?_ _|refine qk ?_|refine qz ?_ _));refine blk_put (cs:=#[.string (⟨#[]⟩ : ByteArray),.slice none 0 0,.slice none 0 0,.slice none 0 0,.slice none 0 0]) ?_ 4 _ rfl;(with_reducible repeat(first|refine qj ?_ _|refine qk ?_|refine qz ?_ _));refine blk_put (cs:=#[.string (⟨#[]⟩ : ByteArray),.slice none 0 0,.slice none 0 0,.slice none 0 0,.slice none 0 0]) ?_ 3 _ rfl;(with_reducible repeat(first|refine qj ?_ _|refine qk ?_|refine qz ?_ _));refine blk_put (cs:=#[.string (⟨#[]⟩ : ByteArray),.slice none 0 0,.slice none 0 0,.slice none 0 0,.slice none 0 0]) ?_ 2 _ rfl;(with_reducible repeat(first|refine qj ?_ _|refine qk ?_|refine qz ?_ _));refine blk_put (cs:=#[.string (⟨#[]⟩ : ByteArray),.slice none 0 0,.slice none 0 0,.slice none 0 0,.slice none 0 0]) ?_ 1 _ rfl;(with_reducible repeat(first|refine qj ?_ _|refine qk ?_|refine qz ?_ _));refine blk_put (cs:=#[.string x102000_1,.slice none 0 0,.slice none 0 0,.slice none 0 0,.slice none 0 0]) ?_ 0 _ rfl;(with_reducible repeat(first|refine qj ?_ _|refine qk ?_|refine qz ?_ _));exact BK101.out) Try.underlying77 rfl (by kernel_rfl)) rfl ?_
    exact⟨_,_,_,_,by first|rfl|(simp[*,zv,zk] <;> rfl),(by first|exact Kd.V_nil _ _ _ _ _|exact Kd.V_mono (Kd.R_V (by first|exact Kd.R_nil _ _ _ 0 _|exact Kd.R_nil _ _ _ _ _|exact Kd.N_nil _ _ _ _ _|exact Kd.V_nil _ _ _ _ _|exact Kd.Q_nil _ _ _ _ _|exact Kd.S_nil _ _ _ _ _)) (fun k_ hk=>by first|exact⟨(.inr (hk.1)),hk.2⟩|exact(.inr (hk)))),(by first|exact Kd.V_nil _ _ _ _ _|exact Kd.V_mono (Kd.R_V (by first|exact Kd.R_nil _ _ _ 0 _|exact Kd.R_nil _ _ _ _ _|exact Kd.N_nil _ _ _ _ _|exact Kd.V_nil _ _ _ _ _|exact Kd.Q_nil _ _ _ _ _|exact Kd.S_nil _ _ _ _ _)) (fun k_ hk=>by first|exact⟨(.inr (hk.1)),hk.2⟩|exact(.inr (hk)))),(by first|exact Kd.V_nil _ _ _ _ _|exact Kd.V_mono (Kd.R_V (by first|exact Kd.R_nil _ _ _ 0 _|exact Kd.R_nil _ _ _ _ _|exact Kd.N_nil _ _ _ _ _|exact Kd.V_nil _ _ _ _ _|exact Kd.Q_nil _ _ _ _ _|exact Kd.S_nil _ _ _ _ _)) (fun k_ hk=>by first|exact⟨(.inr (hk.1)),hk.2⟩|exact(.inr (hk)))),(by first|exact Kd.V_nil _ _ _ _ _|exact Kd.V_mono (Kd.R_V (by first|exact Kd.R_nil _ _ _ 0 _|exact Kd.R_nil _ _ _ _ _|exact Kd.N_nil _ _ _ _ _|exact Kd.V_nil _ _ _ _ _|exact Kd.Q_nil _ _ _ _ _|exact Kd.S_nil _ _ _ _ _)) (fun k_ hk=>by first|exact⟨(.inr (hk.1)),hk.2⟩|exact(.inr (hk)))),by repeat(first|(with_reducible first|exact HB.out|apply O|apply U|apply L|refine qq ?_ GE101.out|refine qq ?_ GE105.out)|exact HB.out)⟩
end Go.Proofs.Ytakocdkcfjkmdaa.Pr
namespace Go.Proofs.Ytakocdkcfjkmdaa.Pr
open Go.RowKit Go.Proofs.YtakocdkcfjkmdaaW.PrintWords Go.Proofs.YtakocdkcfjkmdaaW.PrintLast Go.Proofs.YtakocdkcfjkmdaaW.PrintMore
attribute [local go_sem] max2_int min2_int max_two min_two max_three min_three max_four min_four
set_option linter.unusedVariables false
set_option linter.unusedSimpArgs false
def vv.f (k:Nat) (l0_0:List (S77)) (l0_1:List Int) (a0_2:Int) (a0_3:Int) (a0_4:ByteArray) (a0_5:ByteArray) (a0_6:Bool) (a0_7:Bool):Option (ByteArray × List Int × List ByteArray × List ByteArray × List Int × Bool):=(vw.f k l0_0 false a0_4).bind fun bt103=>(some (bt103.1,bt103.2.1,bt103.2.2.1,bt103.2.2.2.1,bt103.2.2.2.2.1,bt103.2.2.2.2.2))
theorem vv.calls (k:Nat) (P0_0_:Nat→Prop) (A0_0:Option Addr) (c0_0:Nat) (l0_0:List (S77)) (A0_1:Option Addr) (c0_1:Nat) (l0_1:List Int) (a0_2:Int) (a0_3:Int) (a0_4:ByteArray) (a0_5:ByteArray) (a0_6:Bool) (a0_7:Bool) (r1:ByteArray) (r2:List Int) (r3:List ByteArray) (r4:List ByteArray) (r5:List Int) (r6:Bool) (w:World) (hs0_0:Kd.V k77 77 w w.heap.size (fun k_=>P0_0_ k_) (.slice A0_0 l0_0.length c0_0) l0_0) (hr0_1:Kd.C (Kd.int .u8) w A0_1 l0_1.length l0_1) (hc0_1:l0_1.length≤c0_1) (h:vv.f k l0_0 l0_1 a0_2 a0_3 a0_4 a0_5 a0_6 a0_7=some (r1,r2,r3,r4,r5,r6)) :
  Calls Try.prog 62 #[.agg #[.slice A0_0 l0_0.length c0_0,.slice A0_1 l0_1.length c0_1,.int .i64 a0_2,.int .i64 a0_3,.string a0_4,.string a0_5,.bool a0_6,.bool a0_7]] w fun e w'=>∃ v1_ v2_ v3_ v4_:Value,e=.returned (.tuple #[.agg #[.string r1,v1_,v2_,v3_,v4_],.bool r6])∧Kd.V (Kd.int .u8) 5 w' w.heap.size (fun k_=>(P0_0_ k_∨w.heap.size≤k_)) v1_ r2∧Kd.V Kd.string 9 w' w.heap.size (fun k_=>(P0_0_ k_∨w.heap.size≤k_)) v2_ r3∧Kd.V Kd.string 9 w' w.heap.size (fun k_=>(P0_0_ k_∨w.heap.size≤k_)) v3_ r4∧Kd.V (Kd.int .i64) 3 w' w.heap.size (fun k_=>(P0_0_ k_∨w.heap.size≤k_)) v4_ r5∧Below w.heap.size w w':=by
 have hu62:=Try.underlying62
 have hu77:=Try.underlying77
 have HO0_0:=X.mk (show Kd.V k77 77 w w.heap.size (fun k_=>(P0_0_ k_∨w.heap.size≤k_)) (.slice A0_0 l0_0.length c0_0) l0_0 from Kd.V_mono hs0_0 (fun k_ hk=>.inl hk))
 have HR0_1:=X.mk hr0_1
 have HC0_1:=X.mk hc0_1
 clear hr0_1 hc0_1
 have HB:=X.mk (Below.refl w.heap.size w)
 unfold vv.f at h
 have H:=h
 clear h
 replace H:=jq8.mp H
 obtain⟨⟨t103,t104,t107,t110,t113,t116⟩,A20,H⟩:=H
 try dsimp only at H
 have A2:=X.mk A20
 clear A20
 simp only[Option.some.injEq,Prod.mk.injEq] at H
 obtain⟨rfl,rfl,rfl,rfl,rfl,rfl⟩:=H
 go_enter Try.func62,Try.ntmps62
 go_wp2_with (first|((with_reducible refine gate_dst (N:=1) rfl ?_);refine box_event ?hg (N:=1) ?hd (cs:=#[.slice A0_0 l0_0.length c0_0,.slice A0_1 l0_1.length c0_1,.int .i64 a0_2,.int .i64 a0_3,.string a0_4,.string a0_5,.bool a0_6,.bool a0_7]) (t:=62) ?hr ?_;(case hd=>rfl);(case hg=>rfl);(case hr=>first|(go_simp;done)|(go_simp;rfl));intro gb101 hg w3 hbox hb;replace HO0_0:=X.mk (Kd.V_below (Kd.V_elderB (by(with_reducible repeat(first|apply Kd.jx|apply Kd.jw|apply Kd.kz));exact HO0_0.out) gb101 (Nat.le_of_eq hg.symm)) hb);have BK101:=X.mk (hbox);have GW101:=X.mk ((by rw[hg];exact(qx (by solve_by_elim only[HB.out,O,U,L])):w.heap.size≤gb101));have GE101:=X.mk ((by rw[hg];exact(qx (by solve_by_elim only[HB.out,O,U,L])):w.heap.size≤gb101));replace HB:=X.mk (qw (by solve_by_elim only[HB.out,O,U,L]) hb);clear hb hbox hg)|((with_reducible refine gate_dst (N:=2) rfl ?_);refine box_event ?hg (N:=2) ?hd (cs:=#[.string (⟨#[]⟩ : ByteArray),.slice none 0 0,.slice none 0 0,.slice none 0 0,.slice none 0 0]) (t:=77) ?hr ?_;(case hd=>rfl);(case hg=>rfl);(case hr=>first|(go_simp;done)|(go_simp;rfl));intro gb102 hg w4 hbox hb;replace HO0_0:=X.mk (Kd.V_below (Kd.V_elderB (by(with_reducible repeat(first|apply Kd.jx|apply Kd.jw|apply Kd.kz));exact HO0_0.out) gb102 (Nat.le_of_eq hg.symm)) hb);have BK102:=X.mk (hbox);have GW102:=X.mk ((by rw[hg];exact(qx (by solve_by_elim (maxDepth:=20) only[HB.out,O,U,L,qq,GE101.out])):w.heap.size≤gb102));have GE102:=X.mk ((by rw[hg];exact(qx (by solve_by_elim (maxDepth:=20) only[HB.out,O,U,L,qq,GE101.out])):w.heap.size≤gb102));replace HB:=X.mk (qw (by solve_by_elim (maxDepth:=20) only[HB.out,O,U,L,qq,GE101.out]) hb);have NB101_102:=X.mk ((by rw[hg];exact Nat.ne_of_lt (blk_lt (g:=gb101) (o:=.cells #[.slice A0_0 l0_0.length c0_0,.slice A0_1 l0_1.length c0_1,.int .i64 a0_2,.int .i64 a0_3,.string a0_4,.string a0_5,.bool a0_6,.bool a0_7] 62 (0,0)) (by solve_by_elim only[BK101.out,qj,qk,qz])):gb101≠gb102));have NB102_101:=X.mk ((by rw[hg];exact Nat.ne_of_gt (blk_lt (g:=gb101) (o:=.cells #[.slice A0_0 l0_0.length c0_0,.slice A0_1 l0_1.length c0_1,.int .i64 a0_2,.int .i64 a0_3,.string a0_4,.string a0_5,.bool a0_6,.bool a0_7] 62 (0,0)) (by solve_by_elim only[BK101.out,qj,qk,qz])):gb102≠gb101));replace BK101:=X.mk (kj (g:=gb101) (o:=.cells #[.slice A0_0 l0_0.length c0_0,.slice A0_1 l0_1.length c0_1,.int .i64 a0_2,.int .i64 a0_3,.string a0_4,.string a0_5,.bool a0_6,.bool a0_7] 62 (0,0)) (by solve_by_elim only[BK101.out,qj,qk,qz]) hb);clear hb hbox hg;have hnb5:=NB101_102.out;have hnc5:=NB102_101.out;have hcz6_0:w4.cell? ⟨gb101,0,none⟩ = some (.slice A0_0 l0_0.length c0_0):=(I BK101.out 0).trans rfl;have hcz6_1:w4.cell? ⟨gb101,1,none⟩ = some (.slice A0_1 l0_1.length c0_1):=(I BK101.out 1).trans rfl;have hcz6_2:w4.cell? ⟨gb101,2,none⟩ = some (.int .i64 a0_2):=(I BK101.out 2).trans rfl;have hcz6_3:w4.cell? ⟨gb101,3,none⟩ = some (.int .i64 a0_3):=(I BK101.out 3).trans rfl;have hcz6_4:w4.cell? ⟨gb101,4,none⟩ = some (.string a0_4):=(I BK101.out 4).trans rfl;have hcz6_5:w4.cell? ⟨gb101,5,none⟩ = some (.string a0_5):=(I BK101.out 5).trans rfl;have hcz6_6:w4.cell? ⟨gb101,6,none⟩ = some (.bool a0_6):=(I BK101.out 6).trans rfl;have hcz6_7:w4.cell? ⟨gb101,7,none⟩ = some (.bool a0_7):=(I BK101.out 7).trans rfl;have hfz6_0:=J BK101.out 0;have hfz6_1:=J BK101.out 1;have hfz6_2:=J BK101.out 2;have hfz6_3:=J BK101.out 3;have hfz6_4:=J BK101.out 4;have hfz6_5:=J BK101.out 5;have hfz6_6:=J BK101.out 6;have hfz6_7:=J BK101.out 7)|((with_reducible refine zw (f:=85) rfl ?_);refine goesL_ (some 9) rfl rfl Try.func85 (by kernel_rfl) rfl #[.slice A0_0 l0_0.length c0_0,(.func (.func 86) #[] #[]),.string a0_4] rfl (by(try simp only[jq0,jq1,jq2]);first|done|rfl|(simp only[jq3,jq4];rfl)) ?_;(with_reducible refine(vw.calls k (fun k_=>(((P0_0_ k_∨w.heap.size≤k_)∧k_≠gb101)∧k_≠gb102)) _ _ l0_0 false a0_4 t103 t104 t107 t110 t113 t116 _ ?side1 A2.out).mono ?_);(case side1=>exact HO0_0.out);rintro e w7 ⟨v105,v108,v111,v114,rfl,ho0,ho1,ho2,ho3,hb⟩;refine⟨_,rfl,?_⟩;replace HO0_0:=X.mk (Kd.V_below (by(with_reducible repeat(first|apply Kd.jx|apply Kd.jw|apply Kd.kz));exact HO0_0.out) hb);have HO106:=X.mk (Kd.V_lower (Kd.V_mono (ok':=fun k_=>(P0_0_ k_∨w.heap.size≤k_)∧k_≠gb101∧k_≠gb102) ho0 (fun k_ hk_=>⟨Or.elim hk_ (fun hs_=>hs_.1.1) (fun hn_=>(.inr (Nat.le_trans (qx (by solve_by_elim (maxDepth:=20) only[HB.out,O,U,L,qq,GE101.out,qq,GE102.out])) hn_))),Or.elim hk_ (fun hs_=>hs_.1.2) (fun hn_=>(Kd.freshB (g:=gb101) (o:=.cells #[.slice A0_0 l0_0.length c0_0,.slice A0_1 l0_1.length c0_1,.int .i64 a0_2,.int .i64 a0_3,.string a0_4,.string a0_5,.bool a0_6,.bool a0_7] 62 (0,0)) (by solve_by_elim only[BK101.out,qj,qk,qz]) k_ hn_)),Or.elim hk_ (fun hs_=>hs_.2) (fun hn_=>(Kd.freshB (g:=gb102) (o:=.cells #[.string (⟨#[]⟩ : ByteArray),.slice none 0 0,.slice none 0 0,.slice none 0 0,.slice none 0 0] 77 (0,0)) (by solve_by_elim only[BK102.out,qj,qk,qz]) k_ hn_))⟩)) (qx (by solve_by_elim (maxDepth:=20) only[HB.out,O,U,L,qq,GE101.out,qq,GE102.out])));have HO109:=X.mk (Kd.V_lower (Kd.V_mono (ok':=fun k_=>(P0_0_ k_∨w.heap.size≤k_)∧k_≠gb101∧k_≠gb102) ho1 (fun k_ hk_=>⟨Or.elim hk_ (fun hs_=>hs_.1.1) (fun hn_=>(.inr (Nat.le_trans (qx (by solve_by_elim (maxDepth:=20) only[HB.out,O,U,L,qq,GE101.out,qq,GE102.out])) hn_))),Or.elim hk_ (fun hs_=>hs_.1.2) (fun hn_=>(Kd.freshB (g:=gb101) (o:=.cells #[.slice A0_0 l0_0.length c0_0,.slice A0_1 l0_1.length c0_1,.int .i64 a0_2,.int .i64 a0_3,.string a0_4,.string a0_5,.bool a0_6,.bool a0_7] 62 (0,0)) (by solve_by_elim only[BK101.out,qj,qk,qz]) k_ hn_)),Or.elim hk_ (fun hs_=>hs_.2) (fun hn_=>(Kd.freshB (g:=gb102) (o:=.cells #[.string (⟨#[]⟩ : ByteArray),.slice none 0 0,.slice none 0 0,.slice none 0 0,.slice none 0 0] 77 (0,0)) (by solve_by_elim only[BK102.out,qj,qk,qz]) k_ hn_))⟩)) (qx (by solve_by_elim (maxDepth:=20) only[HB.out,O,U,L,qq,GE101.out,qq,GE102.out])));have HO112:=X.mk (Kd.V_lower (Kd.V_mono (ok':=fun k_=>(P0_0_ k_∨w.heap.size≤k_)∧k_≠gb101∧k_≠gb102) ho2 (fun k_ hk_=>⟨Or.elim hk_ (fun hs_=>hs_.1.1) (fun hn_=>(.inr (Nat.le_trans (qx (by solve_by_elim (maxDepth:=20) only[HB.out,O,U,L,qq,GE101.out,qq,GE102.out])) hn_))),Or.elim hk_ (fun hs_=>hs_.1.2) (fun hn_=>(Kd.freshB (g:=gb101) (o:=.cells #[.slice A0_0 l0_0.length c0_0,.slice A0_1 l0_1.length c0_1,.int .i64 a0_2,.int .i64 a0_3,.string a0_4,.string a0_5,.bool a0_6,.bool a0_7] 62 (0,0)) (by solve_by_elim only[BK101.out,qj,qk,qz]) k_ hn_)),Or.elim hk_ (fun hs_=>hs_.2) (fun hn_=>(Kd.freshB (g:=gb102) (o:=.cells #[.string (⟨#[]⟩ : ByteArray),.slice none 0 0,.slice none 0 0,.slice none 0 0,.slice none 0 0] 77 (0,0)) (by solve_by_elim only[BK102.out,qj,qk,qz]) k_ hn_))⟩)) (qx (by solve_by_elim (maxDepth:=20) only[HB.out,O,U,L,qq,GE101.out,qq,GE102.out])));have HO115:=X.mk (Kd.V_lower (Kd.V_mono (ok':=fun k_=>(P0_0_ k_∨w.heap.size≤k_)∧k_≠gb101∧k_≠gb102) ho3 (fun k_ hk_=>⟨Or.elim hk_ (fun hs_=>hs_.1.1) (fun hn_=>(.inr (Nat.le_trans (qx (by solve_by_elim (maxDepth:=20) only[HB.out,O,U,L,qq,GE101.out,qq,GE102.out])) hn_))),Or.elim hk_ (fun hs_=>hs_.1.2) (fun hn_=>(Kd.freshB (g:=gb101) (o:=.cells #[.slice A0_0 l0_0.length c0_0,.slice A0_1 l0_1.length c0_1,.int .i64 a0_2,.int .i64 a0_3,.string a0_4,.string a0_5,.bool a0_6,.bool a0_7] 62 (0,0)) (by solve_by_elim only[BK101.out,qj,qk,qz]) k_ hn_)),Or.elim hk_ (fun hs_=>hs_.2) (fun hn_=>(Kd.freshB (g:=gb102) (o:=.cells #[.string (⟨#[]⟩ : ByteArray),.slice none 0 0,.slice none 0 0,.slice none 0 0,.slice none 0 0] 77 (0,0)) (by solve_by_elim only[BK102.out,qj,qk,qz]) k_ hn_))⟩)) (qx (by solve_by_elim (maxDepth:=20) only[HB.out,O,U,L,qq,GE101.out,qq,GE102.out])));replace BK101:=X.mk (kj (g:=gb101) (o:=.cells #[.slice A0_0 l0_0.length c0_0,.slice A0_1 l0_1.length c0_1,.int .i64 a0_2,.int .i64 a0_3,.string a0_4,.string a0_5,.bool a0_6,.bool a0_7] 62 (0,0)) (by solve_by_elim only[BK101.out,qj,qk,qz]) hb);replace BK102:=X.mk (kj (g:=gb102) (o:=.cells #[.string (⟨#[]⟩ : ByteArray),.slice none 0 0,.slice none 0 0,.slice none 0 0,.slice none 0 0] 77 (0,0)) (by solve_by_elim only[BK102.out,qj,qk,qz]) hb);replace HB:=X.mk (qw (by solve_by_elim (maxDepth:=20) only[HB.out,O,U,L,qq,GE101.out,qq,GE102.out]) hb);(try clear hb ho0 ho1 ho2 ho3);have hcz8_0:w7.cell? ⟨gb102,0,none⟩ = some (.string (⟨#[]⟩ : ByteArray)):=(I BK102.out 0).trans rfl;have hcz8_1:w7.cell? ⟨gb102,1,none⟩ = some (.slice none 0 0):=(I BK102.out 1).trans rfl;have hcz8_2:w7.cell? ⟨gb102,2,none⟩ = some (.slice none 0 0):=(I BK102.out 2).trans rfl;have hcz8_3:w7.cell? ⟨gb102,3,none⟩ = some (.slice none 0 0):=(I BK102.out 3).trans rfl;have hcz8_4:w7.cell? ⟨gb102,4,none⟩ = some (.slice none 0 0):=(I BK102.out 4).trans rfl;have hfz8_0:=J BK102.out 0;have hfz8_1:=J BK102.out 1;have hfz8_2:=J BK102.out 2;have hfz8_3:=J BK102.out 3;have hfz8_4:=J BK102.out 4;obtain⟨Ao9,co9,eo9⟩:=Kd.V_slice HO106.out;subst eo9;obtain⟨Ao10,co10,eo10⟩:=Kd.V_slice HO109.out;subst eo10;obtain⟨Ao11,co11,eo11⟩:=Kd.V_slice HO112.out;subst eo11;obtain⟨Ao12,co12,eo12⟩:=Kd.V_slice HO115.out;subst eo12))
 refine bodyPost_ret (results_ct rfl _ _ gb102 77 #[.string t103,.slice Ao9 t104.length co9,.slice Ao10 t107.length co10,.slice Ao11 t110.length co11,.slice Ao12 t113.length co12] (0,0) _ rfl (by(with_reducible repeat(first|refine qj ?_ _|refine qk ?_|refine qz ?_ _));refine blk_put (cs:=#[.string t103,.slice Ao9 t104.length co9,.slice Ao10 t107.length co10,.slice Ao11 t110.length co11,.slice none 0 0]) ?_ 4 _ rfl;(with_reducible repeat(first|refine qj ?_ _|refine qk ?_|refine qz ?_ _));refine blk_put (cs:=#[.string t103,.slice Ao9 t104.length co9,.slice Ao10 t107.length co10,.slice none 0 0,.slice none 0 0]) ?_ 3 _ rfl;(with_reducible repeat(first|refine qj ?_ _|refine qk ?_|refine qz ?_ _));refine blk_put (cs:=#[.string t103,.slice Ao9 t104.length co9,.slice none 0 0,.slice none 0 0,.slice none 0 0]) ?_ 2 _ rfl;(with_reducible repeat(first|refine qj ?_ _|refine qk ?_|refine qz ?_ _));refine blk_put (cs:=#[.string t103,.slice none 0 0,.slice none 0 0,.slice none 0 0,.slice none 0 0]) ?_ 1 _ rfl;(with_reducible repeat(first|refine qj ?_ _|refine qk ?_|refine qz ?_ _));refine blk_put (cs:=#[.string (⟨#[]⟩ : ByteArray),.slice none 0 0,.slice none 0 0,.slice none 0 0,.slice none 0 0]) ?_ 0 _ rfl;(with_reducible repeat(first|refine qj ?_ _|refine qk ?_|refine qz ?_ _));exact BK102.out) Try.underlying77 rfl (by kernel_rfl)) rfl ?_
 exact⟨_,_,_,_,by first|rfl|(simp[*,zv,zk] <;> rfl),by(with_reducible repeat(first|apply Kd.jx|apply Kd.jw|apply Kd.kz));exact Kd.V_mono (Kd.V_far (p:=⟨gb102,4,none⟩) (Kd.V_far (p:=⟨gb102,3,none⟩) (Kd.V_far (p:=⟨gb102,2,none⟩) (Kd.V_far (p:=⟨gb102,1,none⟩) (Kd.V_far (p:=⟨gb102,0,none⟩) (Kd.V_mono HO106.out (fun k_ hk=>(⟨hk,hk.2.2⟩ : _∧k_≠gb102))) (fun _ hk=>hk.2) (.string t103)) (fun _ hk=>hk.2) (.slice Ao9 t104.length co9)) (fun _ hk=>hk.2) (.slice Ao10 t107.length co10)) (fun _ hk=>hk.2) (.slice Ao11 t110.length co11)) (fun _ hk=>hk.2) (.slice Ao12 t113.length co12)) (fun _ hk=>hk.1.1),by(with_reducible repeat(first|apply Kd.jx|apply Kd.jw|apply Kd.kz));exact Kd.V_mono (Kd.V_far (p:=⟨gb102,4,none⟩) (Kd.V_far (p:=⟨gb102,3,none⟩) (Kd.V_far (p:=⟨gb102,2,none⟩) (Kd.V_far (p:=⟨gb102,1,none⟩) (Kd.V_far (p:=⟨gb102,0,none⟩) (Kd.V_mono HO109.out (fun k_ hk=>(⟨hk,hk.2.2⟩ : _∧k_≠gb102))) (fun _ hk=>hk.2) (.string t103)) (fun _ hk=>hk.2) (.slice Ao9 t104.length co9)) (fun _ hk=>hk.2) (.slice Ao10 t107.length co10)) (fun _ hk=>hk.2) (.slice Ao11 t110.length co11)) (fun _ hk=>hk.2) (.slice Ao12 t113.length co12)) (fun _ hk=>hk.1.1),by(with_reducible repeat(first|apply Kd.jx|apply Kd.jw|apply Kd.kz));exact Kd.V_mono (Kd.V_far (p:=⟨gb102,4,none⟩) (Kd.V_far (p:=⟨gb102,3,none⟩) (Kd.V_far (p:=⟨gb102,2,none⟩) (Kd.V_far (p:=⟨gb102,1,none⟩) (Kd.V_far (p:=⟨gb102,0,none⟩) (Kd.V_mono HO112.out (fun k_ hk=>(⟨hk,hk.2.2⟩ : _∧k_≠gb102))) (fun _ hk=>hk.2) (.string t103)) (fun _ hk=>hk.2) (.slice Ao9 t104.length co9)) (fun _ hk=>hk.2) (.slice Ao10 t107.length co10)) (fun _ hk=>hk.2) (.slice Ao11 t110.length co11)) (fun _ hk=>hk.2) (.slice Ao12 t113.length co12)) (fun _ hk=>hk.1.1),by(with_reducible repeat(first|apply Kd.jx|apply Kd.jw|apply Kd.kz));exact Kd.V_mono (Kd.V_far (p:=⟨gb102,4,none⟩) (Kd.V_far (p:=⟨gb102,3,none⟩) (Kd.V_far (p:=⟨gb102,2,none⟩) (Kd.V_far (p:=⟨gb102,1,none⟩) (Kd.V_far (p:=⟨gb102,0,none⟩) (Kd.V_mono HO115.out (fun k_ hk=>(⟨hk,hk.2.2⟩ : _∧k_≠gb102))) (fun _ hk=>hk.2) (.string t103)) (fun _ hk=>hk.2) (.slice Ao9 t104.length co9)) (fun _ hk=>hk.2) (.slice Ao10 t107.length co10)) (fun _ hk=>hk.2) (.slice Ao11 t110.length co11)) (fun _ hk=>hk.2) (.slice Ao12 t113.length co12)) (fun _ hk=>hk.1.1),by repeat(first|(with_reducible first|exact HB.out|apply O|apply U|apply L|refine qq ?_ GE101.out|refine qq ?_ GE102.out)|exact HB.out)⟩
end Go.Proofs.Ytakocdkcfjkmdaa.Pr
namespace Go.Proofs.Ytakocdkcfjkmdaa.Pr
open Go.RowKit Go.Proofs.YtakocdkcfjkmdaaW.PrintWords Go.Proofs.YtakocdkcfjkmdaaW.PrintLast Go.Proofs.YtakocdkcfjkmdaaW.PrintMore
attribute [local go_sem] max2_int min2_int max_two min_two max_three min_three max_four min_four
set_option linter.unusedVariables false
set_option linter.unusedSimpArgs false
def qkw.l0:Nat→List Int→Int→Int→Int→Option (Int)
 | 0,_,_,_,_=>none
 | k + 1,x0,x1,x7,x8=>if x8 < x7 then(if 0≤x8 then(if x8 < (x0.length:Int) then(if x1=(rd x0 x8) then(some x8) else(qkw.l0 k x0 x1 x7 (wrap64 (x8 + 1)))) else(none)) else(none)) else(some (-1))
def qkw.f (k:Nat) (l0:List Int) (a1:Int):Option (Int):=qkw.l0 k l0 a1 (l0.length:Int) 0
theorem qkw.calls (k:Nat) (A0:Option Addr) (c0:Nat) (l0:List Int) (a1:Int) (r:Int) (w:World) (hr0:Kd.C (Kd.int .i64) w A0 l0.length l0) (hc0:l0.length≤c0) (h:qkw.f k l0 a1=some r) :
  Calls Try.prog 87 #[.slice A0 l0.length c0,.int .i64 a1] w fun e w'=>e=.returned (.int .i64 r)∧Drawn0 w w':=by
 have HR0:=X.mk hr0
 have HC0:=X.mk hc0
 clear hr0 hc0
 have H:(qkw.l0 k l0 a1 (l0.length:Int) 0)=some r:=h
 clear h
 have H':=X.mk H
 clear H
 go_enter Try.func87,Try.ntmps87
 go_wp2
 go_loopg [8] k (fun kq v8 w'=>∃ (x8_1:Int),v8=.int .i64 x8_1∧X (qkw.l0 kq l0 a1 (l0.length:Int) x8_1=some r)∧X (kq≤k)∧Drawn0 w w')
 case atStart=>exact⟨(0),(by first|rfl|(simp;done)|(simp[*];done)),H',⟨Nat.le_refl _⟩,by repeat(first|exact Drawn0.refl _|apply Drawn0.step)⟩
 case round =>
  clear H'
  try clear p2
  obtain⟨x8_1,rfl,HA,HK1,⟨m1,rfl⟩⟩:=hrel
  cases gk with
  | zero=>exact absurd HA.out (by simp[qkw.l0])
  | succ k1 =>
   have H:=HA.out
   clear HA
   simp only[qkw.l0] at H
   by_cases c3:x8_1 < (l0.length:Int)
   ·rw[if_pos c3] at H
    have c3b0:decide (x8_1 < (l0.length:Int))=true:=decide_eq_true c3
    clear c3
    by_cases c4 : 0≤x8_1
    ·rw[if_pos c4] at H
     have c4b0:decide (0≤x8_1)=true:=decide_eq_true c4
     clear c4
     by_cases c5:x8_1 < (l0.length:Int)
     ·rw[if_pos c5] at H
      have c5b0:decide (x8_1 < (l0.length:Int))=true:=decide_eq_true c5
      clear c5
      by_cases c6:a1=(rd l0 x8_1)
      ·rw[if_pos c6] at H
       have c6b0:(a1 == (rd l0 x8_1))=true:=beq_iff_eq.mpr c6
       have c6b1:(a1 != (rd l0 x8_1))=false:=bne_eq_false_iff_eq.mpr c6
       clear c6
       obtain rfl:=Option.some.inj H
       have p101 : 0≤(x8_1:Int):=of_decide_eq_true (by assumption)
       have q101:x8_1 < (l0.length:Int):=of_decide_eq_true (by assumption)
       obtain⟨ad101,e101,hx101_0⟩:=Kd.at_int HR0.out x8_1 p101 q101
       cases e101
       replace p101:=eq_true p101
       replace q101:=eq_true q101
       go_wp2
       go_ret
       exact⟨by first|rfl|(simp;done)|(simp[*];done),by repeat(first|exact Drawn0.refl _|apply Drawn0.step)⟩
      ·rw[if_neg c6] at H
       have c6b0:(a1 == (rd l0 x8_1))=false:=beq_eq_false_iff_ne.mpr c6
       have c6b1:(a1 != (rd l0 x8_1))=true:=bne_iff_ne.mpr c6
       have H':=X.mk H
       clear H
       have p101 : 0≤(x8_1:Int):=of_decide_eq_true (by assumption)
       have q101:x8_1 < (l0.length:Int):=of_decide_eq_true (by assumption)
       obtain⟨ad101,e101,hx101_0⟩:=Kd.at_int HR0.out x8_1 p101 q101
       cases e101
       replace p101:=eq_true p101
       replace q101:=eq_true q101
       go_wp2
       go_roundg k1
       case measure=>have:=HK1.out;omega
       case rel=>exact⟨(wrap64 (x8_1 + 1)),(by first|rfl|(simp;done)|(simp[*];done)),H',⟨by have:=HK1.out;omega⟩,by repeat(first|exact Drawn0.refl _|apply Drawn0.step)⟩
     ·rw[if_neg c5] at H
      exact absurd H (by simp)
    ·rw[if_neg c4] at H
     exact absurd H (by simp)
   ·rw[if_neg c3] at H
    have c3b0:decide (x8_1 < (l0.length:Int))=false:=decide_eq_false c3
    clear c3
    obtain rfl:=Option.some.inj H
    go_wp2
    go_ret
    exact⟨by first|rfl|(simp;done)|(simp[*];done),by repeat(first|exact Drawn0.refl _|apply Drawn0.step)⟩
end Go.Proofs.Ytakocdkcfjkmdaa.Pr
namespace Go.Proofs.Ytakocdkcfjkmdaa.Pr
open Go.RowKit Go.Proofs.YtakocdkcfjkmdaaW.PrintWords Go.Proofs.YtakocdkcfjkmdaaW.PrintLast Go.Proofs.YtakocdkcfjkmdaaW.PrintMore
attribute [local go_sem] max2_int min2_int max_two min_two max_three min_three max_four min_four
set_option linter.unusedVariables false
set_option linter.unusedSimpArgs false
def qkv.f (k:Nat) (l0:List Int) (a1:Int):Option (Bool):=(qkw.f k l0 a1).bind fun t101=>(some (decide (t101 ≥ 0)))
theorem qkv.calls (k:Nat) (A0:Option Addr) (c0:Nat) (l0:List Int) (a1:Int) (r:Bool) (w:World) (hr0:Kd.C (Kd.int .i64) w A0 l0.length l0) (hc0:l0.length≤c0) (h:qkv.f k l0 a1=some r) :
  Calls Try.prog 63 #[.slice A0 l0.length c0,.int .i64 a1] w fun e w'=>e=.returned (.bool r)∧Drawn0 w w':=by
 have HR0:=X.mk hr0
 have HC0:=X.mk hc0
 clear hr0 hc0
 have H:((qkw.f k l0 a1).bind fun t101=>(some (decide (t101 ≥ 0))))=some r:=h
 clear h
 replace H:=jq8.mp H
 obtain⟨t101,A30,H⟩:=H
 replace H:(some (decide (t101 ≥ 0)))=some r:=H
 have A3:=X.mk A30
 clear A30
 obtain rfl:=Option.some.inj H
 go_enter Try.func63,Try.ntmps63
 go_wp2_with (first|((with_reducible refine zw (f:=87) rfl ?_);refine goesL_ (some 7) rfl rfl Try.func87 (by kernel_rfl) rfl #[.slice A0 l0.length c0,.int .i64 a1] rfl (by(try simp only[jq0,jq1,jq2]);first|done|rfl|(simp only[jq3,jq4];rfl)) ?_;(with_reducible refine(qkw.calls k _ _ l0 a1 t101 _ ?side1 ?side2 A3.out).mono ?_);(case side1=>solve_by_elim only[HR0.out,Kd.C_alloc,Kd.C_drewN,Kd.C_drew]);(case side2=>exact HC0.out);rintro e w' ⟨rfl,⟨nd,rfl⟩⟩;refine⟨_,rfl,?_⟩))
 go_ret
 exact⟨by first|rfl|(simp;done)|(simp[*];done),by repeat(first|exact Drawn0.refl _|apply Drawn0.step)⟩
end Go.Proofs.Ytakocdkcfjkmdaa.Pr
namespace Go.Proofs.Ytakocdkcfjkmdaa.Pr
open Go.RowKit Go.Proofs.YtakocdkcfjkmdaaW.PrintWords Go.Proofs.YtakocdkcfjkmdaaW.PrintLast Go.Proofs.YtakocdkcfjkmdaaW.PrintMore
attribute [local go_sem] max2_int min2_int max_two min_two max_three min_three max_four min_four
set_option linter.unusedVariables false
set_option linter.unusedSimpArgs false
def vq.f (l0:List Int) (l1:List Int):Option (Bool):=some ((strOfNums l0).toList == (strOfNums l1).toList)
theorem vq.calls (A0:Option Addr) (c0:Nat) (l0:List Int) (A1:Option Addr) (c1:Nat) (l1:List Int) (r:Bool) (w:World) (hr0:Kd.C (Kd.int .u8) w A0 l0.length l0) (hc0:l0.length≤c0) (hr1:Kd.C (Kd.int .u8) w A1 l1.length l1) (hc1:l1.length≤c1) (h:vq.f l0 l1=some r) :
  Calls Try.prog 64 #[.slice A0 l0.length c0,.slice A1 l1.length c1] w fun e w'=>e=.returned (.bool r)∧Drawn0 w w':=by
 have HR0:=X.mk hr0
 have HC0:=X.mk hc0
 clear hr0 hc0
 have HR1:=X.mk hr1
 have HC1:=X.mk hc1
 clear hr1 hc1
 have H:(some ((strOfNums l0).toList == (strOfNums l1).toList))=some r:=h
 clear h
 obtain rfl:=Option.some.inj H
 have hcv3:=Kd.C_string (P:=Try.prog) (A:=A0) (c:=c0) Try.underlying22 Try.underlying5 Try.underlying9 HR0.out
 have hcv4:=Kd.C_string (P:=Try.prog) (A:=A1) (c:=c1) Try.underlying22 Try.underlying5 Try.underlying9 HR1.out
 go_enter Try.func64,Try.ntmps64
 go_wp2
 go_ret
 exact⟨by first|rfl|(simp;done)|(simp[*];done),by repeat(first|exact Drawn0.refl _|apply Drawn0.step)⟩
end Go.Proofs.Ytakocdkcfjkmdaa.Pr
