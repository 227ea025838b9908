/- Printed texts, walks and plain facts that the law FnHeads leans on, joined. -/
import Derived.Test.YtipdkendfcopiaaFullFnHeadsA
import Derived.ProofKit
import Derived.OpenShut
import Derived.ShutString
import Derived.ChangeOld
import Derived.Deep.Slices
import Derived.Lib.SmallJoins
import Derived.Test.YtipdkendfcopiaaProg
import Derived.Below
import Derived.Deep.Draws
import Derived.Deep.AppendLies
import Derived.Maps.AppendAt
import Derived.OwnWalk
import Derived.Laws.BytesArg
import Derived.Laws.MakeOwn
import Derived.Laws.OwnMore
import Derived.Deep.OwnRows
import Derived.Tactics
import Derived.Lib.ConvBytes
import Derived.Laws.Slices
import Derived.WalkKit
import Derived.KernelRfl
import Derived.RowKit3
import Derived.Deep.LoopGhost
import Derived.Deep.QuietTactic
import Derived.BigQuiet
import Derived.WideLaws
import Derived.Deep.DeepCutAuto
import Derived.Deep.CutBlock
import Derived.Deep.RegionHeld3
import Derived.Laws.Rows
import Derived.Lib.AppendStr
import Derived.ArgAppend
import Derived.Laws.IdiomCopy
import Derived.OrdersHeld
import Derived.Laws.BitsLemmas
import Derived.RowKit
import Derived.WalkSpells
import Derived.Shelf.Abstract
import Derived.StillTailTactics
set_option maxHeartbeats 8000000
set_option maxRecDepth 100000
open List renaming map_toArray → jq0, map_cons → jq1, map_nil → jq2, length_drop → jq3, length_take → jq4, setIfInBounds_toArray → jq5, set_cons_zero → jq6, set_cons_succ → jq7
open Option renaming bind_eq_some_iff → jq8
open Bool renaming eq_false_iff → jq9, true → Z, false → Y
namespace Go.Proofs.Ytipdkendfcopiaa.Read
open Go.RowKit Go.ChangeShapes Go.WideShapes Go.Deep Go.Proofs.YtipdkendfcopiaaW.PrintWords
set_option linter.unusedVariables false
def Tells (P:Program) (t:TypeId) {α:Type} (d:Kd α) (ok : α→Prop):Prop :=
 P.cellsOf t=d.sz∧∀ (H:Type) (enc:TypeId × Value→H) (w:World) (sp:Nat→Bool) (fuel:Nat) (cs:List Value) (x:DataW H × List MemPlace),
  DataW.trod enc P w 0 sp true fuel t cs=some x→∃ a : α,d.K w a cs∧ok a
theorem tells_int {P:Program} {t:TypeId} {k:IntKind} (ht:P.underlying t=some (.int k)) (hc:P.cellsOf t=1):Tells P t (Kd.int k) (fun n=>(Lit.int k n).wf=true) :=
 ⟨hc,fun H enc w sp fuel cs x h=>by
  obtain⟨n,rfl,_,hw⟩:=DataW.trod_int ht h
  exact⟨n,rfl,hw⟩⟩
theorem tells_slice {P:Program} {t e:TypeId} {α:Type} {d:Kd α} {ok : α→Prop} (ht:P.underlying t=some (.slice e)) (hc:P.cellsOf t=1) (he:Tells P e d ok) :
  Tells P t (Kd.slice e d) (fun xs=>xs.length≤9223372036854775807∧∀ x ∈ xs,ok x):=by
 refine⟨hc,fun H enc w sp fuel cs x h=>?_⟩
 rcases open_slice ht h with ⟨rfl,_⟩|⟨a,len,cap,m,n,D,Pl,rfl,_,hl,hm,hmm,_,hx⟩
 ·exact⟨[],⟨none,0,rfl,by simp,Kd.C_nil d w⟩,by simp,by simp⟩
 ·have hlm:len≤m:=by rw[hmm];split <;> omega
  have hmax:len≤9223372036854775807:=by unfold maxLen at hm;omega
  have key:∀ j,j≤len→∃ xs:List α,xs.length=j∧(∀ x ∈ xs,ok x)∧∀ i p,xs[i]? = some p→∃ c,c.length=d.sz∧d.K w p c∧∀ k u,c[k]? = some u→w.cell? (a.add (i * d.sz + k))=some u:=by
   intro j
   induction j with
   | zero=>exact fun _=>⟨[],rfl,by simp,by simp⟩
   | succ j ih =>
    intro hj
    obtain⟨xs,hxl,hok,hc⟩:=ih (by omega)
    obtain⟨cs',h1,h2⟩:=hx j (by omega)
    obtain⟨y,hy,hoky⟩:=he.2 H enc w sp n cs' _ h2
    obtain⟨_,hcl,hcc⟩:=World.cells?_some h1
    refine⟨xs ++ [y],by simp[hxl],fun x hx=>?_,fun i p hp=>?_⟩
    ·rcases List.mem_append.1 hx with hx|hx
     ·exact hok x hx
     ·rw[List.mem_singleton.1 hx];exact hoky
    ·rcases Nat.lt_or_ge i xs.length with hi|hi
     ·rw[List.getElem?_append_left hi] at hp
      exact hc i p hp
     ·rw[List.getElem?_append_right hi] at hp
      have hi':i=xs.length:=by
       rcases Nat.eq_zero_or_pos (i - xs.length) with h0|h0
       ·omega
       ·rw[List.getElem?_eq_none (by simp;omega)] at hp;cases hp
      subst hi'
      simp only[Nat.sub_self,List.getElem?_cons_zero,Option.some.injEq] at hp
      subst hp
      refine⟨cs',by rw[hcl,he.1],hy,fun k u hu=>?_⟩
      have hk:k < P.cellsOf e:=by
       rcases Nat.lt_or_ge k cs'.length with h|h
       ·omega
       ·rw[List.getElem?_eq_none h] at hu;cases hu
      have:=hcc k hk
      rw[Go.Addr.add_add,he.1,← hxl] at this
      rw[this];exact hu
  obtain⟨xs,hxl,hok,hc⟩:=key len (Nat.le_refl _)
  refine⟨xs,⟨some a,cap,by rw[hxl],by omega,?_⟩,by omega,hok⟩
  exact⟨rfl,by omega,fun _=>⟨a,rfl,hc⟩⟩
theorem tells_weaken {P:Program} {t:TypeId} {α:Type} {d:Kd α} {ok ok' : α→Prop} (h:Tells P t d ok) (hw:∀ a,ok a→ok' a):Tells P t d ok' :=
 ⟨h.1,fun H enc w sp fuel cs x hx=>let ⟨a,ha,ho⟩:=h.2 H enc w sp fuel cs x hx;⟨a,ha,hw a ho⟩⟩
theorem tells_arg {P:Program} {t:TypeId} {α:Type} {d:Kd α} {ok : α→Prop} (h:Tells P t d ok) {H:Type} {enc:TypeId × Value→H} {w:World} {sp:Nat→Bool} {v:Value} {D:DataW H} {ps:List MemPlace}
  (hv:DataW.Trod enc P w 0 sp true t v D ps):∃ a,d.K w a v.cells.toList∧ok a:=by
 obtain⟨fuel,hf⟩:=hv
 exact h.2 H enc w sp fuel _ _ hf
theorem byte_bounds {n:Int} (h:(Lit.int .u8 n).wf=true) : 0≤n∧n≤255:=by
 simpa [Lit.wf,IntKind.min,IntKind.max,IntKind.signed,IntKind.bits] using h
def okB (n:Int):Prop:=0≤n∧n≤255
def okS (s:ByteArray):Prop:=s.size≤9223372036854775807
def okL {α:Type} (ok : α→Prop) (xs:List α):Prop:=xs.length≤9223372036854775807∧∀ x ∈ xs,ok x
theorem tellsB {P:Program} {t:TypeId} (ht:P.underlying t=some (.int .u8)) (hc:P.cellsOf t=1):Tells P t (Kd.int .u8) okB:=tells_weaken (tells_int ht hc) fun _ h=>byte_bounds h
theorem tellsL {P:Program} {t e:TypeId} {α:Type} {d:Kd α} {ok : α→Prop} (ht:P.underlying t=some (.slice e)) (hc:P.cellsOf t=1) (he:Tells P e d ok):Tells P t (Kd.slice e d) (okL ok):=tells_slice ht hc he
theorem arg_slice {P:Program} {t e:TypeId} {α:Type} {d:Kd α} {ok : α→Prop} (ht:P.underlying t=some (.slice e)) (h:Tells P t (Kd.slice e d) (okL ok)) {H:Type} {enc:TypeId × Value→H} {w w2:World} {r:Reach} {base:Nat} {sp:Nat→Bool} {v:Value} {D:DataW H} {ps:List MemPlace}
  (ho:Value.okWide P w2 r base t v) (hv:DataW.Trod enc P w 0 sp true t v D ps):∃ A c xs,v=.slice A xs.length c∧xs.length≤c∧d.C w A xs.length xs∧okL ok xs:=by
 obtain⟨a,l,c,rfl⟩:=okWide_slice ht ho
 obtain⟨xs,⟨A,c',hc,hl,hC⟩,hok⟩:=tells_arg h hv
 simp only[Value.cells,List.cons.injEq,and_true,Value.slice.injEq] at hc
 obtain⟨rfl,rfl,rfl⟩:=hc
 exact⟨_,_,xs,rfl,hl,hC,hok⟩
end Go.Proofs.Ytipdkendfcopiaa.Read
namespace Go.Proofs.Ytipdkendfcopiaa.Pr
open Go.RowKit Go.Proofs.YtipdkendfcopiaaW.PrintWords Go.Proofs.YtipdkendfcopiaaW.PrintLast Go.Proofs.YtipdkendfcopiaaW.PrintMore
attribute [local go_sem] max2_int min2_int max_two min_two max_three min_three max_four min_four
set_option linter.unusedVariables false
set_option linter.unusedSimpArgs false
def errW:Option Int→Value
 | none=>.nilIface
 | some c=>.iface 0 (.int .i64 c)
theorem jv:errW none=.nilIface:=rfl
theorem jk (c:Int):errW (some c)=.iface 0 (.int .i64 c):=rfl
theorem info5:(Try.prog.info? 5).map (fun i=>(i.zero,i.size,i.bytes))=some (some (.int .u8 0),1,1):=by kernel_rfl
theorem info22:(Try.prog.info? 22).map (fun i=>(i.zero,i.size,i.bytes))=some (some (.slice none 0 0),1,24):=by kernel_rfl
theorem info27:(Try.prog.info? 27).map (fun i=>(i.zero,i.size,i.bytes))=some (some (.agg #[(.int .i64 0),(.string ⟨#[]⟩),(.string ⟨#[]⟩),(.slice none 0 0),(.slice none 0 0)]),5,88):=by kernel_rfl
def rd_L2 (xs:List (List Int)) (i:Int):(List Int):=xs.getD i.toNat ([]:List Int)
theorem at_L2 {w:World} {A:Option Addr} {n:Nat} {xs:List (List Int)} (h:Kd.C (Kd.slice 5 (Kd.int .u8)) w A n xs) (i:Int) (h0 : 0≤i) (h1:i < n):∃ ad A0 c0,A=some ad∧w.cell? (ad.add i.toNat)=some (.slice A0 (rd_L2 xs i).length c0)∧(rd_L2 xs i).length≤c0∧(Kd.int .u8).C w A0 (rd_L2 xs i).length (rd_L2 xs i):=by
 obtain⟨ad,c,e,_,hK,hc0⟩:=Kd.C_get h ([]:List Int) i h0 h1
 have hc:∀ j u,c[j]? = some u→w.cell? (ad.add (i.toNat * 1 + j))=some u:=hc0
 obtain⟨A0,c0,rfl,l0,g0⟩:=hK
 exact⟨ad,A0,c0,e,by have hq:=hc 0 _ rfl;rwa [Nat.mul_one,Nat.add_zero] at hq,l0,g0⟩
structure S24 where
 f0:Int
 f1:ByteArray
 f2:ByteArray
 f3:(List Int)
 f4:(List Int)
structure S27 where
 f0:Int
 f1:ByteArray
 f2:ByteArray
 f3:(List Int)
 f4:(List Int)
def z27:S27:=⟨(0:Int),(⟨#[]⟩ : ByteArray),(⟨#[]⟩ : ByteArray),([]:List Int),([]:List Int)⟩
def k27:Kd S27:=Kd.iso (Kd.pair (Kd.int .i64) (Kd.pair Kd.string (Kd.pair Kd.string (Kd.pair (Kd.slice 5 (Kd.int .u8)) (Kd.slice 5 (Kd.int .u8)))))) (fun x:S27=>(x.f0,x.f1,x.f2,x.f3,x.f4))
theorem k27_open {w:World} {x:S27} {cs:List Value} (h:k27.K w x cs):∃ A3 c3 A4 c4,cs=[.int .i64 x.f0,.string x.f1,.string x.f2,.slice A3 x.f3.length c3,.slice A4 x.f4.length c4]∧x.f3.length≤c3∧(Kd.int .u8).C w A3 x.f3.length x.f3∧x.f4.length≤c4∧(Kd.int .u8).C w A4 x.f4.length x.f4:=by
 obtain⟨_,_,rfl,rfl,⟨_,_,rfl,rfl,⟨_,_,rfl,rfl,⟨_,_,rfl,⟨A3,c3,rfl,l3,g3⟩,⟨A4,c4,rfl,l4,g4⟩⟩⟩⟩⟩:=h
 exact⟨A3,c3,A4,c4,rfl,l3,g3,l4,g4⟩
theorem k27_mk (w:World) (x:S27) {A3:Option Addr} {c3:Nat} (l3:x.f3.length≤c3) (g3:(Kd.int .u8).C w A3 x.f3.length x.f3) {A4:Option Addr} {c4:Nat} (l4:x.f4.length≤c4) (g4:(Kd.int .u8).C w A4 x.f4.length x.f4):k27.K w x [.int .i64 x.f0,.string x.f1,.string x.f2,.slice A3 x.f3.length c3,.slice A4 x.f4.length c4]:=⟨[.int .i64 x.f0],[.string x.f1,.string x.f2,.slice A3 x.f3.length c3,.slice A4 x.f4.length c4],rfl,rfl,⟨[.string x.f1],[.string x.f2,.slice A3 x.f3.length c3,.slice A4 x.f4.length c4],rfl,rfl,⟨[.string x.f2],[.slice A3 x.f3.length c3,.slice A4 x.f4.length c4],rfl,rfl,⟨[.slice A3 x.f3.length c3],[.slice A4 x.f4.length c4],rfl,⟨A3,c3,rfl,l3,g3⟩,⟨A4,c4,rfl,l4,g4⟩⟩⟩⟩⟩
theorem k27_openF {W:World} {ok:Nat→Prop} {x:S27} {cs:List Value} (h:Kd.FK k27 W ok x cs):∃ A3 c3 A4 c4,cs=[.int .i64 x.f0,.string x.f1,.string x.f2,.slice A3 x.f3.length c3,.slice A4 x.f4.length c4]∧x.f3.length≤c3∧Kd.F (Kd.int .u8) W ok A3 x.f3.length x.f3∧x.f4.length≤c4∧Kd.F (Kd.int .u8) W ok A4 x.f4.length x.f4:=by
 obtain⟨A3,c3,A4,c4,rfl,l3,_,l4,_⟩:=k27_open (Kd.FK_now h)
 exact⟨A3,c3,A4,c4,rfl,l3,(fun W' hW=>by obtain⟨A3_,c3_,A4_,c4_,he,l3_,g3_,l4_,g4_⟩:=k27_open (h W' hW);injection (Option.some.inj (show some (Value.slice A3 x.f3.length c3)=some (Value.slice A3_ x.f3.length c3_) from congrArg (fun l=>l[3]?) he)) with ha_ _ _;rw[ha_];exact g3_),l4,(fun W' hW=>by obtain⟨A3_,c3_,A4_,c4_,he,l3_,g3_,l4_,g4_⟩:=k27_open (h W' hW);injection (Option.some.inj (show some (Value.slice A4 x.f4.length c4)=some (Value.slice A4_ x.f4.length c4_) from congrArg (fun l=>l[4]?) he)) with ha_ _ _;rw[ha_];exact g4_)⟩
theorem k27_mkF (W:World) (ok:Nat→Prop) (x:S27) {A3:Option Addr} {c3:Nat} (l3:x.f3.length≤c3) (g3:Kd.F (Kd.int .u8) W ok A3 x.f3.length x.f3) {A4:Option Addr} {c4:Nat} (l4:x.f4.length≤c4) (g4:Kd.F (Kd.int .u8) W ok A4 x.f4.length x.f4):Kd.FK k27 W ok x [.int .i64 x.f0,.string x.f1,.string x.f2,.slice A3 x.f3.length c3,.slice A4 x.f4.length c4]:=fun W2 hW=>k27_mk W2 x l3 (g3 W2 hW) l4 (g4 W2 hW)
def wk (xs:List S27) (i:Int):S27:=xs.getD i.toNat z27
theorem at_T27 {w:World} {A:Option Addr} {n:Nat} {xs:List S27} (h:Kd.C k27 w A n xs) (i:Int) (h0 : 0≤i) (h1:i < n):∃ ad A3 c3 A4 c4,A=some ad∧w.cell? (ad.add (i.toNat * 5))=some (.int .i64 (wk xs i).f0)∧w.cell? ⟨(ad.add (i.toNat * 5)).block,(ad.add (i.toNat * 5)).off + 1,none⟩ = some (.string (wk xs i).f1)∧w.cell? ⟨(ad.add (i.toNat * 5)).block,(ad.add (i.toNat * 5)).off + 2,none⟩ = some (.string (wk xs i).f2)∧w.cell? ⟨(ad.add (i.toNat * 5)).block,(ad.add (i.toNat * 5)).off + 3,none⟩ = some (.slice A3 (wk xs i).f3.length c3)∧w.cell? ⟨(ad.add (i.toNat * 5)).block,(ad.add (i.toNat * 5)).off + 4,none⟩ = some (.slice A4 (wk xs i).f4.length c4)∧(wk xs i).f3.length≤c3∧(Kd.int .u8).C w A3 (wk xs i).f3.length (wk xs i).f3∧(wk xs i).f4.length≤c4∧(Kd.int .u8).C w A4 (wk xs i).f4.length (wk xs i).f4:=by
 obtain⟨ad,c,e,_,hK,hc0⟩:=Kd.C_get h z27 i h0 h1
 have hc:∀ j u,c[j]? = some u→w.cell? (ad.add (i.toNat * 5 + j))=some u:=hc0
 obtain⟨A3,c3,A4,c4,rfl,l3,g3,l4,g4⟩:=k27_open hK
 exact⟨ad,A3,c3,A4,c4,e,hc 0 _ rfl,by rw[← add_field _ _ 1 (by omega)];exact hc 1 _ rfl,by rw[← add_field _ _ 2 (by omega)];exact hc 2 _ rfl,by rw[← add_field _ _ 3 (by omega)];exact hc 3 _ rfl,by rw[← add_field _ _ 4 (by omega)];exact hc 4 _ rfl,l3,g3,l4,g4⟩
structure S107 where
 f0:(List Int)
 f1:Int
 f2:Int
def zqk.l0:Nat→Int→Int→Int→Int→Int→Option (Int)
 | 0,_,_,_,_,_=>none
 | k + 1,x0,x1,x2,x7,x8=>if x8 ≥ 0 then(if x2=0 then(none) else(if 0≤(IntKind.u64.wrap (x8)) then(if (Go.bits .and .i64 (shr .i64 x1 (IntKind.u64.wrap (x8))) 1)=1 then(zqk.l0 k x0 x1 x2 (Int.tmod (wrap64 ((Int.tmod (wrap64 (x7 * x7)) x2) * x0)) x2) (wrap64 (x8 - 1))) else(zqk.l0 k x0 x1 x2 (Int.tmod (wrap64 (x7 * x7)) x2) (wrap64 (x8 - 1)))) else(none))) else(some x7)
def zqk.f (k:Nat) (a0:Int) (a1:Int) (a2:Int):Option (Int):=zqk.l0 k a0 a1 a2 1 40
theorem zqk.calls (k:Nat) (a0:Int) (a1:Int) (a2:Int) (r:Int) (w:World) (h:zqk.f k a0 a1 a2=some r) :
  Calls Try.prog 110 #[.int .i64 a0,.int .i64 a1,.int .i64 a2] w fun e w'=>e=.returned (.int .i64 r)∧Drawn0 w w':=by
 have H:(zqk.l0 k a0 a1 a2 1 40)=some r:=h
 clear h
 have H':=U.mk H
 clear H
 go_enter Try.func110,Try.ntmps110
 go_wp2
 go_loopg [7,8] k (fun kq v7 v8 w'=>∃ (x7_1:Int) (x8_1:Int),v7=.int .i64 x7_1∧v8=.int .i64 x8_1∧U (zqk.l0 kq a0 a1 a2 x7_1 x8_1=some r)∧U (kq≤k)∧Drawn0 w w')
 case atStart=>exact⟨(1),(40),(by first|rfl|(simp;done)|(simp[*];done)),(by first|rfl|(simp;done)|(simp[*];done)),H',⟨Nat.le_refl _⟩,by repeat(first|exact Drawn0.refl _|apply Drawn0.step)⟩
 case round =>
  clear H'
  try clear c1
  try clear p2
  obtain⟨x7_1,x8_1,rfl,rfl,HA,HK1,⟨m1,rfl⟩⟩:=hrel
  cases gk with
  | zero=>exact absurd HA.out (by simp[zqk.l0])
  | succ k1 =>
   have H:=HA.out
   clear HA
   simp only[zqk.l0] at H
   by_cases c4:x8_1 ≥ 0
   ·rw[if_pos c4] at H
    have c4b0:decide (0≤x8_1)=true:=decide_eq_true c4
    clear c4
    by_cases c5:a2=0
    ·rw[if_pos c5] at H
     exact absurd H (by simp)
    ·rw[if_neg c5] at H
     have c5b0:(a2 == 0)=false:=beq_eq_false_iff_ne.mpr c5
     have c5b1:(a2 != 0)=true:=bne_iff_ne.mpr c5
     obtain⟨ji6,hji6⟩ : ∃ j_:Int,(IntKind.u64.wrap (x8_1))=j_:=⟨_,rfl⟩
     replace H:(if 0≤(ji6) then(if (Go.bits .and .i64 (shr .i64 a1 (ji6)) 1)=1 then(zqk.l0 k1 a0 a1 a2 (Int.tmod (wrap64 ((Int.tmod (wrap64 (x7_1 * x7_1)) a2) * a0)) a2) (wrap64 (x8_1 - 1))) else(zqk.l0 k1 a0 a1 a2 (Int.tmod (wrap64 (x7_1 * x7_1)) a2) (wrap64 (x8_1 - 1)))) else(none))=some r:=by first|(rw[hji6] at H;exact H)|(simp only[hji6] at H ⊢;exact H)
     by_cases c7 : 0≤(ji6)
     ·rw[if_pos c7] at H
      have c7b0:=eq_true c7
      have c7b1:decide (0≤(ji6))=true:=decide_eq_true c7
      clear c7
      obtain⟨ji8,hji8⟩ : ∃ j_:Int,(shr .i64 a1 (ji6))=j_:=⟨_,rfl⟩
      replace H:(if (Go.bits .and .i64 (ji8) 1)=1 then(zqk.l0 k1 a0 a1 a2 (Int.tmod (wrap64 ((Int.tmod (wrap64 (x7_1 * x7_1)) a2) * a0)) a2) (wrap64 (x8_1 - 1))) else(zqk.l0 k1 a0 a1 a2 (Int.tmod (wrap64 (x7_1 * x7_1)) a2) (wrap64 (x8_1 - 1))))=some r:=by first|(rw[hji8] at H;exact H)|(simp only[hji8] at H ⊢;exact H)
      have hji8_:(a1 / 2 ^ min (ji6).toNat 64)=ji8:=hji8
      have hji8z:(ji6)≤64→(a1 / 2 ^ (ji6).toNat)=ji8:=shr_small hji8
      by_cases c9:(Go.bits .and .i64 (ji8) 1)=1
      ·rw[if_pos c9] at H
       have c9b0:((Go.bits .and .i64 (ji8) 1) == 1)=true:=beq_iff_eq.mpr c9
       have c9b1:((Go.bits .and .i64 (ji8) 1) != 1)=false:=bne_eq_false_iff_eq.mpr c9
       clear c9
       have H':=U.mk H
       clear H
       go_wp2
       go_roundg k1
       case measure=>have:=HK1.out;omega
       case rel=>exact⟨(Int.tmod (wrap64 ((Int.tmod (wrap64 (x7_1 * x7_1)) a2) * a0)) a2),(wrap64 (x8_1 - 1)),(by first|rfl|(simp;done)|(simp[*];done)),(by first|rfl|(simp;done)|(simp[*];done)),H',⟨by have:=HK1.out;omega⟩,by repeat(first|exact Drawn0.refl _|apply Drawn0.step)⟩
      ·rw[if_neg c9] at H
       have c9b0:((Go.bits .and .i64 (ji8) 1) == 1)=false:=beq_eq_false_iff_ne.mpr c9
       have c9b1:((Go.bits .and .i64 (ji8) 1) != 1)=true:=bne_iff_ne.mpr c9
       have H':=U.mk H
       clear H
       go_wp2
       go_roundg k1
       case measure=>have:=HK1.out;omega
       case rel=>exact⟨(Int.tmod (wrap64 (x7_1 * x7_1)) a2),(wrap64 (x8_1 - 1)),(by first|rfl|(simp;done)|(simp[*];done)),(by first|rfl|(simp;done)|(simp[*];done)),H',⟨by have:=HK1.out;omega⟩,by repeat(first|exact Drawn0.refl _|apply Drawn0.step)⟩
     ·rw[if_neg c7] at H
      exact absurd H (by simp)
   ·rw[if_neg c4] at H
    have c4b0:decide (0≤x8_1)=false:=decide_eq_false c4
    clear c4
    obtain rfl:=Option.some.inj H
    go_wp2
    go_ret
    exact⟨by first|rfl|(simp;done)|(simp[*];done),by repeat(first|exact Drawn0.refl _|apply Drawn0.step)⟩
def zqv.f (k:Nat) (a0:Int):Option (Bool):=if a0 ≥ 2 then(if a0 < 2147483579 then((zqk.f k a0 1073741789 2147483579).bind fun t101=>(some (t101 == 1))) else(some false)) else(some false)
theorem zqv.calls (k:Nat) (a0:Int) (r:Bool) (w:World) (h:zqv.f k a0=some r) :
  Calls Try.prog 125 #[.int .i64 a0] w fun e w'=>e=.returned (.bool r)∧Drawn0 w w':=by
 unfold zqv.f at h
 have H:=h
 clear h
 by_cases c2:a0 ≥ 2
 ·rw[if_pos c2] at H
  have c2b0:decide (2≤a0)=true:=decide_eq_true c2
  clear c2
  by_cases c3:a0 < 2147483579
  ·rw[if_pos c3] at H
   have c3b0:decide (a0 < 2147483579)=true:=decide_eq_true c3
   clear c3
   replace H:=jq8.mp H
   obtain⟨t101,A40,H⟩:=H
   replace H:(some (t101 == 1))=some r:=H
   have A4:=U.mk A40
   clear A40
   obtain rfl:=Option.some.inj H
   go_enter Try.func125,Try.ntmps125
   go_wp2_with (first|(go_at_call 110;(with_reducible refine(zqk.calls k a0 1073741789 2147483579 t101 _ A4.out).mono ?_);rintro e w' ⟨rfl,⟨nd,rfl⟩⟩))
   go_ret
   exact⟨by first|rfl|(simp;done)|(simp[*];done),by repeat(first|exact Drawn0.refl _|apply Drawn0.step)⟩
  ·rw[if_neg c3] at H
   have c3b0:decide (a0 < 2147483579)=false:=decide_eq_false c3
   clear c3
   obtain rfl:=Option.some.inj H
   go_enter Try.func125,Try.ntmps125
   go_wp2
   go_ret
   exact⟨by first|rfl|(simp;done)|(simp[*];done),by repeat(first|exact Drawn0.refl _|apply Drawn0.step)⟩
 ·rw[if_neg c2] at H
  have c2b0:decide (2≤a0)=false:=decide_eq_false c2
  clear c2
  obtain rfl:=Option.some.inj H
  go_enter Try.func125,Try.ntmps125
  go_wp2
  go_ret
  exact⟨by first|rfl|(simp;done)|(simp[*];done),by repeat(first|exact Drawn0.refl _|apply Drawn0.step)⟩
def zqj.l0:Nat→List Int→Int→Int→Option (Int)
 | 0,_,_,_=>none
 | k + 1,x0,x3,x4=>if x4 ≥ 0 then(if 0≤x4 then(if x4 < (x0.length:Int) then(zqj.l0 k x0 (wrap64 ((wrap64 (x3 * 256)) + (wrap64 (rd x0 x4)))) (wrap64 (x4 - 1))) else(none)) else(none)) else(some x3)
def zqj.f (k:Nat) (l0:List Int):Option (Int):=zqj.l0 k l0 0 3
theorem zqj.calls (k:Nat) (A0:Option Addr) (c0:Nat) (l0:List Int) (r:Int) (w:World) (hr0:Kd.C (Kd.int .u8) w A0 l0.length l0) (hc0:l0.length≤c0) (h:zqj.f k l0=some r) :
  Calls Try.prog 129 #[.slice A0 l0.length c0] w fun e w'=>e=.returned (.int .i64 r)∧Drawn0 w w':=by
 have HR0:=U.mk hr0
 have HC0:=U.mk hc0
 clear hr0 hc0
 have H:(zqj.l0 k l0 0 3)=some r:=h
 clear h
 have H':=U.mk H
 clear H
 go_enter Try.func129,Try.ntmps129
 go_wp2
 go_loopg [3,4] k (fun kq v3 v4 w'=>∃ (x3_1:Int) (x4_1:Int),v3=.int .i64 x3_1∧v4=.int .i64 x4_1∧U (zqj.l0 kq l0 x3_1 x4_1=some r)∧U (kq≤k)∧Drawn0 w w')
 case atStart=>exact⟨(0),(3),(by first|rfl|(simp;done)|(simp[*];done)),(by first|rfl|(simp;done)|(simp[*];done)),H',⟨Nat.le_refl _⟩,by repeat(first|exact Drawn0.refl _|apply Drawn0.step)⟩
 case round =>
  clear H'
  try clear c1
  obtain⟨x3_1,x4_1,rfl,rfl,HA,HK1,⟨m1,rfl⟩⟩:=hrel
  cases gk with
  | zero=>exact absurd HA.out (by simp[zqj.l0])
  | succ k1 =>
   have H:=HA.out
   clear HA
   simp only[zqj.l0] at H
   by_cases c2:x4_1 ≥ 0
   ·rw[if_pos c2] at H
    have c2b0:decide (0≤x4_1)=true:=decide_eq_true c2
    clear c2
    by_cases c3 : 0≤x4_1
    ·rw[if_pos c3] at H
     have c3b0:decide (0≤x4_1)=true:=decide_eq_true c3
     clear c3
     by_cases c4:x4_1 < (l0.length:Int)
     ·rw[if_pos c4] at H
      have c4b0:decide (x4_1 < (l0.length:Int))=true:=decide_eq_true c4
      clear c4
      have H':=U.mk H
      clear H
      have p101 : 0≤(x4_1:Int):=of_decide_eq_true (by assumption)
      have q101:x4_1 < (l0.length:Int):=of_decide_eq_true (by assumption)
      obtain⟨ad101,e101,hx101_0⟩:=Kd.at_int HR0.out x4_1 p101 q101
      cases e101
      replace p101:=eq_true p101
      replace q101:=eq_true q101
      go_wp2
      go_roundg k1
      case measure=>have:=HK1.out;omega
      case rel=>exact⟨(wrap64 ((wrap64 (x3_1 * 256)) + (wrap64 (rd l0 x4_1)))),(wrap64 (x4_1 - 1)),(by first|rfl|(simp;done)|(simp[*];done)),(by first|rfl|(simp;done)|(simp[*];done)),H',⟨by have:=HK1.out;omega⟩,by repeat(first|exact Drawn0.refl _|apply Drawn0.step)⟩
     ·rw[if_neg c4] at H
      exact absurd H (by simp)
    ·rw[if_neg c3] at H
     exact absurd H (by simp)
   ·rw[if_neg c2] at H
    have c2b0:decide (0≤x4_1)=false:=decide_eq_false c2
    clear c2
    obtain rfl:=Option.some.inj H
    go_wp2
    go_ret
    exact⟨by first|rfl|(simp;done)|(simp[*];done),by repeat(first|exact Drawn0.refl _|apply Drawn0.step)⟩
def qxv.l0:Nat→Int→List Int→Int→Int→Option (List Int)
 | 0,_,_,_,_=>none
 | k + 1,x0,x3,x7,x8=>if x8 < x7 then(if 0≤x8 then(if x8 < (x3.length:Int) then(qxv.l0 k (wrap64 (Int.tdiv x0 256)) (x3.set (x8:Int).toNat ((Int.tmod x0 256) % 256)) x7 (wrap64 (x8 + 1))) else(none)) else(none)) else(some x3)
def qxv.f (k:Nat) (a0:Int):Option (List Int):=if 4≤281474976710656 then((some (List.replicate 4 0:List Int)).bind fun y101=>(qxv.l0 k a0 y101 (y101.length:Int) 0)) else(none)
theorem qxv.mono_l:∀ k,(∀ y0 y1 y2 y3,LeO (qxv.l0 k y0 y1 y2 y3) (qxv.l0 (k + 1) y0 y1 y2 y3))
 | 0=>fun _ _ _ _ r h=>by simp[qxv.l0] at h
 | k + 1=>by
  have ih0:=qxv.mono_l k
  ·intro y0 y1 y2 y3
   unfold qxv.l0
   repeat' first
   | (with_reducible exact ih0 _ _ _ _)
   | (with_reducible exact LeO.refl _)
   | (with_reducible exact LeO.none _)
   | (with_reducible refine LeO.ite ?_ ?_)
   | (with_reducible refine LeO.bind ?_ (fun _=>?_))
   | exact ih0 _ _ _ _
   | exact LeO.none _
   | refine LeO.ite ?_ ?_
   | refine LeO.bind ?_ (fun _=>?_)
theorem qxv.mono:∀ a0 k,LeO (qxv.f k a0) (qxv.f (k + 1) a0):=by
 intro a0 k
 have ih0:=qxv.mono_l k
 unfold qxv.f
 repeat' first
   | (with_reducible exact ih0 _ _ _ _)
   | (with_reducible exact LeO.refl _)
   | (with_reducible exact LeO.none _)
   | (with_reducible refine LeO.ite ?_ ?_)
   | (with_reducible refine LeO.bind ?_ (fun _=>?_))
   | exact ih0 _ _ _ _
   | exact LeO.none _
   | refine LeO.ite ?_ ?_
   | refine LeO.bind ?_ (fun _=>?_)
theorem qxv.calls (k:Nat) (a0:Int) (r:List Int) (w:World) (h:qxv.f k a0=some r) :
  Calls Try.prog 115 #[.int .i64 a0] w fun e w'=>∃ v0_:Value,e=.returned (v0_)∧Kd.R (Kd.int .u8) 5 w' w.heap.size (fun _=>True) v0_ r∧Below w.heap.size w w':=by
 have HB:=U.mk (Below.refl w.heap.size w)
 unfold qxv.f at h
 have H:=h
 clear h
 by_cases c2 : 4≤281474976710656
 ·rw[if_pos c2] at H
  have c2b0:=eq_true c2
  have c2b1:decide (4≤281474976710656)=true:=decide_eq_true c2
  clear c2
  obtain⟨y101,hy101⟩ : ∃ y_:List Int,y_=(List.replicate 4 0):=⟨_,rfl⟩
  replace H:(qxv.l0 k a0 y101 (y101.length:Int) 0)=some r:=by first|(rw[hy101];with_reducible exact H)|(have H2_:=(Option.bind_some _ _).symm.trans H;rw[hy101];with_reducible exact H2_)|(have H2_:=(Option.bind_some _ _).symm.trans H;with_reducible exact H2_)|with_reducible exact H|(rw[hy101];exact H)|exact H
  have Ny101:=U.mk hy101
  clear hy101
  have H':=U.mk H
  clear H
  go_enter Try.func115,Try.ntmps115
  go_wp2_with (first|((with_reducible refine gate_dst (N:=5) rfl ?_);refine Kd.R_make (Kd.int .u8) _ 5 rfl (N:=5) rfl 22 _ _ rfl 4 rfl rfl Try.underlying22 (.int .u8 0) 1 info5 rfl (by decide) (by omega) 0 (ok:=fun _=>True) (okp:=fun _=>True) rfl (fun _ hk=>hk) trivial (by omega) (by omega) (Below.refl _ _) (Nat.le_refl _) ?_;intro v102 w3 ho4 hb hg_ hnew_;clear hg_ hnew_;(first|rw[← Ny101.out] at ho4|(simp only[Int.reduceToNat] at ho4;rw[← Ny101.out] at ho4));have HO103:=U.mk (Kd.R_lower ho4 (zj (by solve_by_elim only[HB.out,G,J,qq])));replace HB:=U.mk (zz (by solve_by_elim only[HB.out,G,J,qq]) hb);clear hb ho4;obtain⟨Ao5,co5,eo5⟩:=Kd.R_slice HO103.out;subst eo5))
  go_loopg [0,8] k (fun kq v0 v8 w'=>∃ (x0_1:Int) (x3_1:List Int) (x8_1:Int),v0=.int .i64 x0_1∧v8=.int .i64 x8_1∧U (qxv.l0 kq x0_1 x3_1 (y101.length:Int) x8_1=some r)∧U (kq≤k)∧U (Kd.R (Kd.int .u8) 5 w' w.heap.size (fun _=>True) (.slice Ao5 y101.length co5) x3_1)∧U (Below w.heap.size w w'))
  case atStart=>exact⟨(a0),(y101),(0),(by first|rfl|(simp;done)|(simp[*];done)),(by first|rfl|(simp;done)|(simp[*];done)),H',⟨Nat.le_refl _⟩,⟨by(with_reducible repeat(first|apply Kd.zv|apply Kd.zk|apply Kd.zw));exact HO103.out⟩,⟨by repeat(first|(with_reducible first|exact HB.out|apply G|apply J|apply qq)|exact HB.out)⟩⟩
  case round =>
   clear H'
   try clear c1
   try clear c2
   try clear c2b0
   try clear c2b1
   try clear p2
   obtain⟨x0_1,x3_1,x8_1,rfl,rfl,HA,HK1,HO_3,HB⟩:=hrel
   have hl3_1:=(Kd.R_reads' HO_3.out).1
   rw[hl3_1] at HO_3
   (try simp only[hl3_1])
   cases gk with
   | zero=>exact absurd HA.out (by simp[qxv.l0])
   | succ k1 =>
    have H:=HA.out
    clear HA
    simp only[qxv.l0] at H
    by_cases c6:x8_1 < (y101.length:Int)
    ·rw[if_pos c6] at H
     have c6b0:decide (x8_1 < (y101.length:Int))=true:=decide_eq_true c6
     clear c6
     by_cases c7 : 0≤x8_1
     ·rw[if_pos c7] at H
      have c7b0:decide (0≤x8_1)=true:=decide_eq_true c7
      clear c7
      by_cases c8:x8_1 < (x3_1.length:Int)
      ·rw[if_pos c8] at H
       have c8b0:decide (x8_1 < (x3_1.length:Int))=true:=decide_eq_true c8
       clear c8
       obtain⟨y104,hy104⟩ : ∃ y_:List Int,y_=(x3_1.set (x8_1:Int).toNat ((Int.tmod x0_1 256) % 256)):=⟨_,rfl⟩
       replace H:(qxv.l0 k1 (wrap64 (Int.tdiv x0_1 256)) y104 (y101.length:Int) (wrap64 (x8_1 + 1)))=some r:=by first|(rw[hy104];with_reducible exact H)|(have H2_:=(Option.bind_some _ _).symm.trans H;rw[hy104];with_reducible exact H2_)|(have H2_:=(Option.bind_some _ _).symm.trans H;with_reducible exact H2_)|with_reducible exact H|(rw[hy104];exact H)|exact H
       have Ny104:=U.mk hy104
       clear hy104
       have H':=U.mk H
       clear H
       have p9 : 0≤(x8_1:Int):=of_decide_eq_true (by assumption)
       have q9:(x8_1:Int) < ((x3_1.length:Int):Int):=of_decide_eq_true (by assumption)
       obtain⟨go9,co9,eo9,gb9,gl9,cl9,HG9⟩:=Kd.R_form HO_3.out (by omega)
       (first|cases eo9|(injection eo9 with ea_ en_ ec_;(first|subst ea_|(injection ea_ with ea_;subst ea_));subst ec_;clear en_))
       have GB9:=U.mk gb9
       have GG9:=U.mk HG9
       clear gb9 gl9 HG9
       obtain⟨hx9_0,hf9_0⟩:=Kd.R_celln 0 HO_3.out (x8_1:Int) p9 q9
       replace p9:=eq_true p9
       replace q9:=eq_true q9
       have HP10:=Kd.R_putg HO_3.out (x8_1:Int) ((Int.tmod x0_1 256) % 256)
       go_wp2_with (first|((with_reducible refine jx (t:=5) (p:=16) rfl ?_);refine kz (t:=5) (p:=16) (v:=?vo_w11) (w1:=(wr.setCell ⟨go9,(x8_1:Int).toNat,none⟩ (.int .u8 ((Int.tmod x0_1 256) % 256)))) ?hg ?ho ?hn ?hr ?_;(case ho=>rfl);(case hg=>rfl);(case hn=>rfl);(case hr=>first|(go_simp;done)|(go_simp;rfl));intro w11 hw;have hg:wr.grownBy w11 (some go9):=(by rw[hw];exact HP10.2);have hp_:Kd.R (Kd.int .u8) 5 w11 w.heap.size (fun _=>True) (.slice (some ⟨go9,0,none⟩) x3_1.length co5) y104:=(by rw[hw,Ny104.out];exact HP10.1);clear HP10;replace HO_3:=U.mk (hp_);replace HB:=U.mk ((by rw[hw];exact qk (HB.out) GB9.out:Below w.heap.size w w11));clear hg hw hp_))
       (try simp only[← hl3_1])
       go_roundg k1
       case measure=>have:=HK1.out;omega
       case rel=>exact⟨(wrap64 (Int.tdiv x0_1 256)),(y104),(wrap64 (x8_1 + 1)),(by first|rfl|(simp;done)|(simp[*];done)),(by first|rfl|(simp;done)|(simp[*];done)),H',⟨by have:=HK1.out;omega⟩,⟨by(try simp only[hl3_1]);(with_reducible repeat(first|apply Kd.zv|apply Kd.zk|apply Kd.zw));exact HO_3.out⟩,⟨by repeat(first|(with_reducible first|exact HB.out|apply G|apply J|apply qq)|exact HB.out)⟩⟩
      ·rw[if_neg c8] at H
       exact absurd H (by simp)
     ·rw[if_neg c7] at H
      exact absurd H (by simp)
    ·rw[if_neg c6] at H
     have c6b0:decide (x8_1 < (y101.length:Int))=false:=decide_eq_false c6
     rw[hl3_1] at c6b0
     clear c6
     obtain rfl:=Option.some.inj H
     go_wp2
     go_ret
     exact⟨_,by first|rfl|(simp[*,jv,jk] <;> rfl),by(with_reducible repeat(first|apply Kd.zv|apply Kd.zk|apply Kd.zw));exact HO_3.out,by repeat(first|(with_reducible first|exact HB.out|apply G|apply J|apply qq)|exact HB.out)⟩
 ·rw[if_neg c2] at H
  exact absurd H (by simp)
def zqz.l0:Nat→List Int→Int→List Int→Int→Option (List Int)
 | 0,_,_,_,_=>none
 | k + 1,x0,x1,x4,x5=>if x5 < 4 then(if 0≤x5 then(if x5 < (x0.length:Int) then(if x5 < (x4.length:Int) then(if 0≤(Int.tmod (wrap64 (x5 + 1)) 4) then(if (Int.tmod (wrap64 (x5 + 1)) 4) < (x0.length:Int) then(zqz.l0 k (x0.set (x5:Int).toNat (Int.tmod (wrap64 ((wrap64 ((wrap64 ((wrap64 ((rd x0 x5) * (rd x4 x5))) + x1)) + 1)) + (rd x0 (Int.tmod (wrap64 (x5 + 1)) 4)))) 2147483579)) x1 x4 (wrap64 (x5 + 1))) else(none)) else(none)) else(none)) else(none)) else(none)) else(some x0)
def zqz.f (k:Nat) (l0:List Int) (a1:Int):Option (List Int):=zqz.l0 k l0 a1 (([1103515245,69069,1664525,22695477]:List Int)) 0
theorem zqz.mono_l:∀ k,(∀ y0 y1 y2 y3,LeO (zqz.l0 k y0 y1 y2 y3) (zqz.l0 (k + 1) y0 y1 y2 y3))
 | 0=>fun _ _ _ _ r h=>by simp[zqz.l0] at h
 | k + 1=>by
  have ih0:=zqz.mono_l k
  ·intro y0 y1 y2 y3
   unfold zqz.l0
   repeat' first
   | (with_reducible exact ih0 _ _ _ _)
   | (with_reducible exact LeO.refl _)
   | (with_reducible exact LeO.none _)
   | (with_reducible refine LeO.ite ?_ ?_)
   | (with_reducible refine LeO.bind ?_ (fun _=>?_))
   | exact ih0 _ _ _ _
   | exact LeO.none _
   | refine LeO.ite ?_ ?_
   | refine LeO.bind ?_ (fun _=>?_)
theorem zqz.mono:∀ a0 a1 k,LeO (zqz.f k a0 a1) (zqz.f (k + 1) a0 a1):=by
 intro a0 a1 k
 have ih0:=zqz.mono_l k
 unfold zqz.f
 repeat' first
   | (with_reducible exact ih0 _ _ _ _)
   | (with_reducible exact LeO.refl _)
   | (with_reducible exact LeO.none _)
   | (with_reducible refine LeO.ite ?_ ?_)
   | (with_reducible refine LeO.bind ?_ (fun _=>?_))
   | exact ih0 _ _ _ _
   | exact LeO.none _
   | refine LeO.ite ?_ ?_
   | refine LeO.bind ?_ (fun _=>?_)
def zqz.T4:Bool × List (List Nat × List Nat):=(true,[([],[]),([],[]),([],[]),([],[]),([2,3],[2,3]),([4],[4]),([],[]),([],[]),([6,7],[6,7]),([8],[8]),([5,9],[5,9]),([],[]),([10,11],[10,11]),([12],[12]),([],[]),([],[]),([15],[15]),([16],[16]),([14,17],[14,17]),([18],[18]),([13,19],[13,19]),([20],[20]),([0,1,0,1,2,3,4,5,6,7,8,9,10,11,12,13,14,15,16,17,18,19,20,21],[0,1]),([22,21,0,1,2,3,4,5,6,7,8,9,10,11,12,13,14,15,16,17,18,19,20,21],[21,22])])
def zqz.B4:List Nat:=[0,0,0,0,12,28,0,0,192,448,1020,0,4092,8188,0,0,32768,98304,245760,507904,1048572,2097148,4194303,8388607]
theorem zqz.tab4:rtab .any (opsOf Try.f137 4)=zqz.T4:=by kernel_rfl
theorem zqz.bits4:waitsOk zqz.T4.2 zqz.B4=true:=by kernel_rfl
theorem zqz.calls (k:Nat) (P0_:Nat→Prop) (u9000_:Value) (l0:List Int) (a1:Int) (r:List Int) (w0 w:World) (hB:Below w0.heap.size w0 w) (ho0:Kd.R (Kd.int .i64) 3 w w0.heap.size P0_ u9000_ l0) (h:zqz.f k l0 a1=some r) :
  Calls Try.prog 137 #[u9000_,.int .i64 a1] w fun e w'=>e=.returned (.tuple #[])∧Kd.R (Kd.int .i64) 3 w' w0.heap.size (fun k_=>(P0_ k_∨w.heap.size≤k_)) u9000_ r∧Below w0.heap.size w0 w'∧kj w w' (fun k_=>P0_ k_):=by
 have HO0:=U.mk (show Kd.R (Kd.int .i64) 3 w w0.heap.size (fun k_=>(P0_ k_∨w.heap.size≤k_)) u9000_ l0 from Kd.R_mono ho0 (fun k_ hk=>(.inl hk)))
 have HK:=U.mk (kj.refl w (fun k_=>P0_ k_))
 have HW0:=U.mk hB.size
 have HB:=U.mk hB
 clear hB
 have H:(zqz.l0 k l0 a1 (([1103515245,69069,1664525,22695477]:List Int)) 0)=some r:=h
 clear h
 obtain⟨y101,hy101⟩ : ∃ y_:List Int,y_=(([1103515245,69069,1664525,22695477]:List Int)):=⟨_,rfl⟩
 replace H:(zqz.l0 k l0 a1 y101 0)=some r:=by first|(rw[hy101];with_reducible exact H)|(have H2_:=(Option.bind_some _ _).symm.trans H;rw[hy101];with_reducible exact H2_)|(have H2_:=(Option.bind_some _ _).symm.trans H;with_reducible exact H2_)|with_reducible exact H|(rw[hy101];exact H)|exact H
 have Ny101:=U.mk hy101
 clear hy101
 have H':=U.mk H
 clear H
 go_enter Try.func137,Try.ntmps137
 go_wp2_with (first|((with_reducible refine gate_dst (N:=6) rfl ?_);refine Kd.R_lit (Kd.int .i64) _ 3 ?hg (N:=6) ?hd (xs:=([1103515245,69069,1664525,22695477]:List Int)) (inner:=[.int .i64 1103515245,.int .i64 69069,.int .i64 1664525,.int .i64 22695477]) (ok:=fun _=>True) (okp:=fun _=>True) ?hr ?hp (fun _ hk=>hk) trivial (Below.refl _ _) (Nat.le_refl _) (by simp) ?_;(case hd=>rfl);(case hg=>rfl);(case hr=>first|(go_simp;done)|(go_simp;rfl));(case hp=>exact(Reps.one (show Kd.M (Kd.int .i64) _ _ _ 1103515245 [.int .i64 1103515245] from rfl) (Reps.one (show Kd.M (Kd.int .i64) _ _ _ 69069 [.int .i64 69069] from rfl) (Reps.one (show Kd.M (Kd.int .i64) _ _ _ 1664525 [.int .i64 1664525] from rfl) (Reps.one (show Kd.M (Kd.int .i64) _ _ _ 22695477 [.int .i64 22695477] from rfl) (Reps.none _ _))))));intro v102 w3 ho4 hb hg_ hnew_;clear hg_ hnew_;(first|rw[← Ny101.out] at ho4|(simp only[Int.reduceToNat] at ho4;rw[← Ny101.out] at ho4));have HO103:=U.mk (Kd.R_lower (Kd.R_new' (Kd.R_newM (M:=fun k_=>(P0_ k_∨w.heap.size≤k_)) ho4 (by first|exact HK.out.1|exact(show kj w _ (fun k_=>P0_ k_) from by repeat(first|(with_reducible first|exact HK.out|apply kj.alloc|apply kj.drewN|apply kj.drew)|exact HK.out)).1) (fun k_ h_=>.inr h_)) (Kd.R_lt (by solve_by_elim only[HO0.out,Kd.zv,Kd.zk,Kd.zw]))) (zj (by solve_by_elim only[HB.out,G,J,qq])));replace HO0:=U.mk (Kd.R_elder' (by solve_by_elim only[HO0.out,Kd.zv,Kd.zk,Kd.zw]) (Kd.R_base ho4) hb);replace HK:=U.mk (kj.below (S:=(fun k_=>P0_ k_)) (by solve_by_elim only[HK.out,kj.alloc,kj.drewN,kj.drew]) hb);replace HB:=U.mk (zz (by solve_by_elim only[HB.out,G,J,qq]) hb);clear hb ho4))
 go_loopg [5] k (fun kq v5 w'=>∃ (x0_1:List Int) (x5_1:Int),v5=.int .i64 x5_1∧U (zqz.l0 kq x0_1 a1 y101 x5_1=some r)∧U (kq≤k)∧U (Kd.R (Kd.int .i64) 3 w' w0.heap.size (fun k_=>(P0_ k_∨w.heap.size≤k_)∧some k_≠(v102:Value).ownBlock) u9000_ x0_1)∧U (Kd.R (Kd.int .i64) 3 w' w0.heap.size (fun k_=>(P0_ k_∨w.heap.size≤k_)∧some k_≠(u9000_:Value).ownBlock) v102 y101)∧U (kj w w' (fun k_=>P0_ k_))∧U (Below w0.heap.size w0 w'))
 case atStart=>exact⟨(l0),(0),(by first|rfl|(simp;done)|(simp[*];done)),H',⟨Nat.le_refl _⟩,⟨by(with_reducible repeat(first|apply Kd.zv|apply Kd.zk|apply Kd.zw));exact HO0.out⟩,⟨by(with_reducible repeat(first|apply Kd.zv|apply Kd.zk|apply Kd.zw));exact Kd.R_mono HO103.out (fun _ hk=>⟨hk.1.1,hk.2⟩)⟩,⟨by repeat(first|(with_reducible first|exact HK.out|apply kj.alloc|apply kj.drewN|apply kj.drew)|exact HK.out)⟩,⟨by repeat(first|(with_reducible first|exact HB.out|apply G|apply J|apply qq)|exact HB.out)⟩⟩
 case round =>
  clear H'
  try clear c1
  try clear p2
  obtain⟨x0_1,x5_1,rfl,HA,HK1,HO_0,HO_4,HK,HB⟩:=hrel
  cases gk with
  | zero=>exact absurd HA.out (by simp[zqz.l0])
  | succ k1 =>
   have H:=HA.out
   clear HA
   simp only[zqz.l0] at H
   by_cases c5:x5_1 < 4
   ·rw[if_pos c5] at H
    have c5b0:decide (x5_1 < 4)=true:=decide_eq_true c5
    clear c5
    by_cases c6 : 0≤x5_1
    ·rw[if_pos c6] at H
     have c6b0:decide (0≤x5_1)=true:=decide_eq_true c6
     clear c6
     by_cases c7:x5_1 < (x0_1.length:Int)
     ·rw[if_pos c7] at H
      have c7b0:decide (x5_1 < (x0_1.length:Int))=true:=decide_eq_true c7
      clear c7
      by_cases c8:x5_1 < (y101.length:Int)
      ·rw[if_pos c8] at H
       have c8b0:decide (x5_1 < (y101.length:Int))=true:=decide_eq_true c8
       clear c8
       obtain⟨ji9,hji9⟩ : ∃ j_:Int,(Int.tmod (wrap64 (x5_1 + 1)) 4)=j_:=⟨_,rfl⟩
       replace H:(if 0≤(ji9) then(if (ji9) < (x0_1.length:Int) then(zqz.l0 k1 (x0_1.set (x5_1:Int).toNat (Int.tmod (wrap64 ((wrap64 ((wrap64 ((wrap64 ((rd x0_1 x5_1) * (rd y101 x5_1))) + a1)) + 1)) + (rd x0_1 (ji9)))) 2147483579)) a1 y101 (wrap64 (x5_1 + 1))) else(none)) else(none))=some r:=by first|(rw[hji9] at H;exact H)|(simp only[hji9] at H ⊢;exact H)
       by_cases c10 : 0≤(ji9)
       ·rw[if_pos c10] at H
        have c10b0:decide (0≤(ji9))=true:=decide_eq_true c10
        clear c10
        by_cases c11:(ji9) < (x0_1.length:Int)
        ·rw[if_pos c11] at H
         have c11b0:decide ((ji9) < (x0_1.length:Int))=true:=decide_eq_true c11
         clear c11
         obtain⟨y107,hy107⟩ : ∃ y_:List Int,y_=(x0_1.set (x5_1:Int).toNat (Int.tmod (wrap64 ((wrap64 ((wrap64 ((wrap64 ((rd x0_1 x5_1) * (rd y101 x5_1))) + a1)) + 1)) + (rd x0_1 (ji9)))) 2147483579)):=⟨_,rfl⟩
         replace H:(zqz.l0 k1 y107 a1 y101 (wrap64 (x5_1 + 1)))=some r:=by first|(rw[hy107];with_reducible exact H)|(have H2_:=(Option.bind_some _ _).symm.trans H;rw[hy107];with_reducible exact H2_)|(have H2_:=(Option.bind_some _ _).symm.trans H;with_reducible exact H2_)|with_reducible exact H|(rw[hy107];exact H)|exact H
         have Ny107:=U.mk hy107
         clear hy107
         have H':=U.mk H
         clear H
         try go_wp2
         replace HO_0:=U.mk (Kd.zw HO_0.out)
         replace HO_4:=U.mk (Kd.zw HO_4.out)
         replace HK:=U.mk (kj.drew HK.out)
         replace HB:=U.mk (qq HB.out)
         obtain⟨Ao14,co14,eo14⟩:=Kd.R_slice HO_0.out
         (first|subst eo14|(injection eo14 with f1_ f2_ f3_;have f4_:=f1_.symm;have f5_:=f3_.symm;clear f1_ f2_ f3_;subst f4_;subst f5_))
         have p104 : 0≤(x5_1:Int):=of_decide_eq_true (by assumption)
         have q104:x5_1 < (x0_1.length:Int):=of_decide_eq_true (by assumption)
         obtain⟨ad104,e104,hx104_0⟩:=Kd.at_int (Kd.R_reads' HO_0.out).2.2 x5_1 p104 q104
         cases e104
         replace p104:=eq_true p104
         replace q104:=eq_true q104
         obtain⟨Ao15,co15,eo15⟩:=Kd.R_slice HO_4.out
         (first|subst eo15|(injection eo15 with f1_ f2_ f3_;have f4_:=f1_.symm;have f5_:=f3_.symm;clear f1_ f2_ f3_;subst f4_;subst f5_))
         have p105 : 0≤(x5_1:Int):=of_decide_eq_true (by assumption)
         have q105:x5_1 < (y101.length:Int):=of_decide_eq_true (by assumption)
         obtain⟨ad105,e105,hx105_0⟩:=Kd.at_int (Kd.R_reads' HO_4.out).2.2 x5_1 p105 q105
         cases e105
         replace p105:=eq_true p105
         replace q105:=eq_true q105
         have p106 : 0≤((ji9):Int):=of_decide_eq_true (by assumption)
         have q106:(ji9) < (x0_1.length:Int):=of_decide_eq_true (by assumption)
         obtain⟨ad106,e106,hx106_0⟩:=Kd.at_int (Kd.R_reads' HO_0.out).2.2 (ji9) p106 q106
         obtain rfl:ad104=ad106:=(by injection e106)
         replace p106:=eq_true p106
         replace q106:=eq_true q106
         have p12 : 0≤(x5_1:Int):=of_decide_eq_true (by assumption)
         have q12:(x5_1:Int) < ((x0_1.length:Int):Int):=of_decide_eq_true (by assumption)
         obtain⟨go12,co12,eo12,gb12,gl12,cl12,HG12⟩:=Kd.R_form HO_0.out (by omega)
         (first|cases eo12|(injection eo12 with ea_ en_ ec_;(first|subst ea_|(injection ea_ with ea_;subst ea_));subst ec_;clear en_))
         have GB12:=U.mk gb12
         have GG12:=U.mk HG12
         clear gb12 gl12 HG12
         have HMgo12:=U.mk (show(P0_ go12∨w.heap.size≤go12) from(HO_0.out.1 _ rfl).1)
         (first|simp only[add_plain] at hx104_0|skip)
         (first|simp only[add_plain] at hx106_0|skip)
         obtain⟨hx12_0,hf12_0⟩:=Kd.R_celln 0 HO_0.out (x5_1:Int) p12 q12
         replace p12:=eq_true p12
         replace q12:=eq_true q12
         have HP16:=Kd.R_putn HO_0.out (x5_1:Int) (Int.tmod (wrap64 ((wrap64 ((wrap64 ((wrap64 ((rd x0_1 x5_1) * (rd y101 x5_1))) + a1)) + 1)) + (rd x0_1 (ji9)))) 2147483579)
         rw[← Ny107.out] at HP16
         have HQ16:=U.mk HP16
         clear HP16
         refine start_ (n:=24) (S:=fun w'=>w'.cell? ⟨go12,(x5_1).toNat,none⟩ = some (.int .i64 (rd x0_1 x5_1))∧w'.cell? (ad105.add (x5_1).toNat)=some (.int .i64 (rd y101 x5_1))∧w'.cell? ⟨go12,((ji9)).toNat,none⟩ = some (.int .i64 (rd x0_1 (ji9)))) (ds:=[23]) #[Y,Y,Y,Y,Y,Y,Y,Y,Y,Y,Y,Y,Y,Y,Y,Y,Y,Y,Y,Y,Y,Y,Y,Y] (by kernel_rfl) rfl rfl ⟨hx104_0,hx105_0,hx106_0⟩ (fun hHeld=>?_);refine with_tabW zqz.tab4 zqz.bits4 (fun HT_ HW_=>?_)
         generalize wr.drew=w13 at HO_0 HO_4 HK HB GG12 HQ16 hf12_0 hx104_0 hx105_0 hx106_0 hx12_0 hHeld ⊢
         refine pure_ (i:=0) (N:=some 11) (v:=?_) (a':=?_) #[Z,Y,Y,Y,Y,Y,Y,Y,Y,Y,Y,Y,Y,Y,Y,Y,Y,Y,Y,Y,Y,Y,Y,Y] rfl rfl (any_of HT_.out (by kernel_rfl)) (fun _ _ _ h=>h) (Or.inl ⟨by rfl,?_⟩) ?_ ?_
         rotate_left
         ·intro w'
          go_simp
          with_reducible rfl
         rotate_left
         ·simp only[Act.put,jq5,jq6,jq7,i64_w,i32_w]
          rfl
         refine pure_ (i:=1) (N:=some 12) (v:=?_) (a':=?_) #[Z,Z,Y,Y,Y,Y,Y,Y,Y,Y,Y,Y,Y,Y,Y,Y,Y,Y,Y,Y,Y,Y,Y,Y] rfl rfl (any_of HT_.out (by kernel_rfl)) (fun _ _ _ h=>h) (Or.inl ⟨by rfl,?_⟩) ?_ ?_
         rotate_left
         ·intro w'
          go_simp
          with_reducible rfl
         rotate_left
         ·simp only[Act.put,jq5,jq6,jq7,i64_w,i32_w]
          rfl
         refine pure_ (i:=2) (N:=some 13) (v:=?_) (a':=?_) #[Z,Z,Z,Y,Y,Y,Y,Y,Y,Y,Y,Y,Y,Y,Y,Y,Y,Y,Y,Y,Y,Y,Y,Y] rfl rfl (any_of HT_.out (by kernel_rfl)) (fun _ _ _ h=>h) (Or.inl ⟨by rfl,?_⟩) ?_ ?_
         rotate_left
         ·intro w'
          go_simp
          with_reducible rfl
         rotate_left
         ·simp only[Act.put,jq5,jq6,jq7,i64_w,i32_w]
          rfl
         refine pure_ (i:=3) (N:=some 14) (v:=?_) (a':=?_) #[Z,Z,Z,Z,Y,Y,Y,Y,Y,Y,Y,Y,Y,Y,Y,Y,Y,Y,Y,Y,Y,Y,Y,Y] rfl rfl (any_of HT_.out (by kernel_rfl)) (fun _ _ _ h=>h) (Or.inl ⟨by rfl,?_⟩) ?_ ?_
         rotate_left
         ·intro w'
          go_simp
          with_reducible rfl
         rotate_left
         ·simp only[Act.put,jq5,jq6,jq7,i64_w,i32_w]
          rfl
         refine pure_ (i:=4) (N:=some 15) (v:=?_) (a':=?_) #[Z,Z,Z,Z,Z,Y,Y,Y,Y,Y,Y,Y,Y,Y,Y,Y,Y,Y,Y,Y,Y,Y,Y,Y] rfl rfl (any_of HT_.out (by kernel_rfl)) (fun _ _ _ h=>h) (Or.inl ⟨by rfl,?_⟩) ?_ ?_
         rotate_left
         ·intro w'
          go_simp
          with_reducible rfl
         rotate_left
         ·simp only[Act.put,jq5,jq6,jq7,i64_w,i32_w]
          rfl
         refine pure_ (i:=6) (N:=some 17) (v:=?_) (a':=?_) #[Z,Z,Z,Z,Z,Y,Z,Y,Y,Y,Y,Y,Y,Y,Y,Y,Y,Y,Y,Y,Y,Y,Y,Y] rfl rfl (any_of HT_.out (by kernel_rfl)) (fun _ _ _ h=>h) (Or.inl ⟨by rfl,?_⟩) ?_ ?_
         rotate_left
         ·intro w'
          go_simp
          with_reducible rfl
         rotate_left
         ·simp only[Act.put,jq5,jq6,jq7,i64_w,i32_w]
          rfl
         refine pure_ (i:=7) (N:=some 18) (v:=?_) (a':=?_) #[Z,Z,Z,Z,Z,Y,Z,Z,Y,Y,Y,Y,Y,Y,Y,Y,Y,Y,Y,Y,Y,Y,Y,Y] rfl rfl (any_of HT_.out (by kernel_rfl)) (fun _ _ _ h=>h) (Or.inl ⟨by rfl,?_⟩) ?_ ?_
         rotate_left
         ·intro w'
          go_simp
          with_reducible rfl
         rotate_left
         ·simp only[Act.put,jq5,jq6,jq7,i64_w,i32_w]
          rfl
         refine pure_ (i:=8) (N:=some 19) (v:=?_) (a':=?_) #[Z,Z,Z,Z,Z,Y,Z,Z,Z,Y,Y,Y,Y,Y,Y,Y,Y,Y,Y,Y,Y,Y,Y,Y] rfl rfl (any_of HT_.out (by kernel_rfl)) (fun _ _ _ h=>h) (Or.inl ⟨by rfl,?_⟩) ?_ ?_
         rotate_left
         ·intro w'
          go_simp
          with_reducible rfl
         rotate_left
         ·simp only[Act.put,jq5,jq6,jq7,i64_w,i32_w]
          rfl
         refine pure_ (i:=11) (N:=some 22) (v:=?_) (a':=?_) #[Z,Z,Z,Z,Z,Y,Z,Z,Z,Y,Y,Z,Y,Y,Y,Y,Y,Y,Y,Y,Y,Y,Y,Y] rfl rfl (any_of HT_.out (by kernel_rfl)) (fun _ _ _ h=>h) (Or.inl ⟨by rfl,?_⟩) ?_ ?_
         rotate_left
         ·intro w'
          go_simp
          with_reducible rfl
         rotate_left
         ·simp only[Act.put,jq5,jq6,jq7,i64_w,i32_w]
          rfl
         refine pure_ (i:=14) (N:=some 25) (v:=?_) (a':=?_) #[Z,Z,Z,Z,Z,Y,Z,Z,Z,Y,Y,Z,Y,Y,Z,Y,Y,Y,Y,Y,Y,Y,Y,Y] rfl rfl (any_of HT_.out (by kernel_rfl)) (fun _ _ _ h=>h) (Or.inl ⟨by rfl,?_⟩) ?_ ?_
         rotate_left
         ·intro w'
          go_simp
          with_reducible rfl
         rotate_left
         ·simp only[Act.put,jq5,jq6,jq7,i64_w,i32_w]
          rfl
         refine pure_ (i:=15) (N:=some 26) (v:=?_) (a':=?_) #[Z,Z,Z,Z,Z,Y,Z,Z,Z,Y,Y,Z,Y,Y,Z,Z,Y,Y,Y,Y,Y,Y,Y,Y] rfl rfl (any_of HT_.out (by kernel_rfl)) (fun _ _ _ h=>h) (Or.inl ⟨by rfl,?_⟩) ?_ ?_
         rotate_left
         ·intro w'
          go_simp
          with_reducible rfl
         rotate_left
         ·simp only[Act.put,jq5,jq6,jq7,i64_w,i32_w]
          rfl
         refine pure_ (i:=16) (N:=some 27) (v:=?_) (a':=?_) #[Z,Z,Z,Z,Z,Y,Z,Z,Z,Y,Y,Z,Y,Y,Z,Z,Z,Y,Y,Y,Y,Y,Y,Y] rfl rfl (any_of HT_.out (by kernel_rfl)) (fun _ _ _ h=>h) (Or.inl ⟨by rfl,?_⟩) ?_ ?_
         rotate_left
         ·intro w'
          go_simp
          with_reducible rfl
         rotate_left
         ·simp only[Act.put,jq5,jq6,jq7,i64_w,i32_w]
          rfl
         refine pure_ (i:=17) (N:=some 28) (v:=?_) (a':=?_) #[Z,Z,Z,Z,Z,Y,Z,Z,Z,Y,Y,Z,Y,Y,Z,Z,Z,Z,Y,Y,Y,Y,Y,Y] rfl rfl (any_of HT_.out (by kernel_rfl)) (fun _ _ _ h=>h) (Or.inl ⟨by rfl,?_⟩) ?_ ?_
         rotate_left
         ·intro w'
          go_simp
          with_reducible rfl
         rotate_left
         ·simp only[Act.put,jq5,jq6,jq7,i64_w,i32_w]
          rfl
         refine pure_ (i:=18) (N:=some 29) (v:=?_) (a':=?_) #[Z,Z,Z,Z,Z,Y,Z,Z,Z,Y,Y,Z,Y,Y,Z,Z,Z,Z,Z,Y,Y,Y,Y,Y] rfl rfl (any_of HT_.out (by kernel_rfl)) (fun _ _ _ h=>h) (Or.inl ⟨by rfl,?_⟩) ?_ ?_
         rotate_left
         ·intro w'
          go_simp
          with_reducible rfl
         rotate_left
         ·simp only[Act.put,jq5,jq6,jq7,i64_w,i32_w]
          rfl
         refine take_ (i:=5) (N:=some 16) (v:=?_) (a':=?_) #[Z,Z,Z,Z,Z,Z,Z,Z,Z,Y,Y,Z,Y,Y,Z,Z,Z,Z,Z,Y,Y,Y,Y,Y] rfl rfl (take_ofW HT_.out HW_.out (by kernel_rfl)) (fun _ _ _ h=>h) (Or.inl ⟨by rfl,?_⟩) hHeld ?_ ?_
         rotate_left
         ·rintro w' ⟨s0,s1,s2⟩
          go_simp
          with_reducible rfl
         rotate_left
         ·simp only[Act.put,jq5,jq6,jq7,i64_w,i32_w]
          rfl
         refine take_ (i:=9) (N:=some 20) (v:=?_) (a':=?_) #[Z,Z,Z,Z,Z,Z,Z,Z,Z,Z,Y,Z,Y,Y,Z,Z,Z,Z,Z,Y,Y,Y,Y,Y] rfl rfl (take_ofW HT_.out HW_.out (by kernel_rfl)) (fun _ _ _ h=>h) (Or.inl ⟨by rfl,?_⟩) hHeld ?_ ?_
         rotate_left
         ·rintro w' ⟨s0,s1,s2⟩
          go_simp
          with_reducible rfl
         rotate_left
         ·simp only[Act.put,jq5,jq6,jq7,i64_w,i32_w]
          rfl
         refine pure_ (i:=10) (N:=some 21) (v:=?_) (a':=?_) #[Z,Z,Z,Z,Z,Z,Z,Z,Z,Z,Z,Z,Y,Y,Z,Z,Z,Z,Z,Y,Y,Y,Y,Y] rfl rfl (any_of HT_.out (by kernel_rfl)) (fun _ _ _ h=>h) (Or.inl ⟨by rfl,?_⟩) ?_ ?_
         rotate_left
         ·intro w'
          go_simp
          with_reducible rfl
         rotate_left
         ·simp only[Act.put,jq5,jq6,jq7,i64_w,i32_w]
          rfl
         refine pure_ (i:=12) (N:=some 23) (v:=?_) (a':=?_) #[Z,Z,Z,Z,Z,Z,Z,Z,Z,Z,Z,Z,Z,Y,Z,Z,Z,Z,Z,Y,Y,Y,Y,Y] rfl rfl (any_of HT_.out (by kernel_rfl)) (fun _ _ _ h=>h) (Or.inl ⟨by rfl,?_⟩) ?_ ?_
         rotate_left
         ·intro w'
          go_simp
          with_reducible rfl
         rotate_left
         ·simp only[Act.put,jq5,jq6,jq7,i64_w,i32_w]
          rfl
         refine pure_ (i:=13) (N:=some 24) (v:=?_) (a':=?_) #[Z,Z,Z,Z,Z,Z,Z,Z,Z,Z,Z,Z,Z,Z,Z,Z,Z,Z,Z,Y,Y,Y,Y,Y] rfl rfl (any_of HT_.out (by kernel_rfl)) (fun _ _ _ h=>h) (Or.inl ⟨by rfl,?_⟩) ?_ ?_
         rotate_left
         ·intro w'
          go_simp
          with_reducible rfl
         rotate_left
         ·simp only[Act.put,jq5,jq6,jq7,i64_w,i32_w]
          rfl
         refine take_ (i:=19) (N:=some 30) (v:=?_) (a':=?_) #[Z,Z,Z,Z,Z,Z,Z,Z,Z,Z,Z,Z,Z,Z,Z,Z,Z,Z,Z,Z,Y,Y,Y,Y] rfl rfl (take_ofW HT_.out HW_.out (by kernel_rfl)) (fun _ _ _ h=>h) (Or.inl ⟨by rfl,?_⟩) hHeld ?_ ?_
         rotate_left
         ·rintro w' ⟨s0,s1,s2⟩
          go_simp
          with_reducible rfl
         rotate_left
         ·simp only[Act.put,jq5,jq6,jq7,i64_w,i32_w]
          rfl
         refine pure_ (i:=20) (N:=some 31) (v:=?_) (a':=?_) #[Z,Z,Z,Z,Z,Z,Z,Z,Z,Z,Z,Z,Z,Z,Z,Z,Z,Z,Z,Z,Z,Y,Y,Y] rfl rfl (any_of HT_.out (by kernel_rfl)) (fun _ _ _ h=>h) (Or.inl ⟨by rfl,?_⟩) ?_ ?_
         rotate_left
         ·intro w'
          go_simp
          with_reducible rfl
         rotate_left
         ·simp only[Act.put,jq5,jq6,jq7,i64_w,i32_w]
          rfl
         refine pure_ (i:=21) (N:=some 32) (v:=?_) (a':=?_) #[Z,Z,Z,Z,Z,Z,Z,Z,Z,Z,Z,Z,Z,Z,Z,Z,Z,Z,Z,Z,Z,Z,Y,Y] rfl rfl (any_of HT_.out (by kernel_rfl)) (fun _ _ _ h=>h) (Or.inl ⟨by rfl,?_⟩) ?_ ?_
         rotate_left
         ·intro w'
          go_simp
          with_reducible rfl
         rotate_left
         ·simp only[Act.put,jq5,jq6,jq7,i64_w,i32_w]
          rfl
         refine pure_ (i:=22) (N:=some 33) (v:=?_) (a':=?_) #[Z,Z,Z,Z,Z,Z,Z,Z,Z,Z,Z,Z,Z,Z,Z,Z,Z,Z,Z,Z,Z,Z,Z,Y] rfl rfl (any_of HT_.out (by kernel_rfl)) (fun _ _ _ h=>h) (Or.inl ⟨by rfl,?_⟩) ?_ ?_
         rotate_left
         ·intro w'
          go_simp
          with_reducible rfl
         rotate_left
         ·simp only[Act.put,jq5,jq6,jq7,i64_w,i32_w]
          rfl
         refine last_ (i:=23) (N:=none) #[Z,Z,Z,Z,Z,Z,Z,Z,Z,Z,Z,Z,Z,Z,Z,Z,Z,Z,Z,Z,Z,Z,Z,Z] rfl rfl (one_of HT_.out (by kernel_rfl)) (by decide) (fun K hK=>?_)
         refine skip_ (w1:=?_) (by rfl) rfl ?_ ?_
         rotate_left
         ·go_simp
          rfl
         refine hK.out _ _ ?_
         clear hK K
         refine done_ (done_of HT_.out (by kernel_rfl)) ?_
         try go_wp2
         go_roundg k1
         case measure=>have:=HK1.out;omega
         case rel=>exact⟨(y107),(wrap64 (x5_1 + 1)),(by first|rfl|(simp;done)|(simp[*];done)),H',⟨by have:=HK1.out;omega⟩,⟨by(with_reducible repeat(first|apply Kd.zv|apply Kd.zk|apply Kd.zw));exact HQ16.out⟩,⟨by(with_reducible repeat(first|apply Kd.zv|apply Kd.zk|apply Kd.zw));exact Kd.R_mono (Kd.R_far (p:=⟨go12,(x5_1:Int).toNat,none⟩) (Kd.R_mono HO_4.out (fun k_ hk=>(⟨hk,fun e_=>hk.2 (by rw[e_];rfl)⟩ : _∧k_≠go12))) (fun _ hk=>hk.2) (.int .i64 (Int.tmod (wrap64 ((wrap64 ((wrap64 ((wrap64 ((rd x0_1 x5_1) * (rd y101 x5_1))) + a1)) + 1)) + (rd x0_1 (ji9)))) 2147483579))) (fun _ hk=>⟨hk.1.1,hk.1.2⟩)⟩,⟨by repeat(first|(with_reducible first|exact HK.out|apply kj.alloc|apply kj.drewN|apply kj.drew|refine kj.setCell ?_ HMgo12.out _)|exact HK.out)⟩,⟨by repeat(first|(with_reducible first|exact HB.out|apply G|apply J|apply qq|refine qk ?_ GB12.out)|exact HB.out)⟩⟩
        ·rw[if_neg c11] at H
         exact absurd H (by simp)
       ·rw[if_neg c10] at H
        exact absurd H (by simp)
      ·rw[if_neg c8] at H
       exact absurd H (by simp)
     ·rw[if_neg c7] at H
      exact absurd H (by simp)
    ·rw[if_neg c6] at H
     exact absurd H (by simp)
   ·rw[if_neg c5] at H
    have c5b0:decide (x5_1 < 4)=false:=decide_eq_false c5
    clear c5
    obtain rfl:=Option.some.inj H
    go_wp2
    first|go_end0|((try simp only[Exit.inBlock,Exit.then]);refine bodyPost_ret (results_none rfl _ _ _) rfl ?_)
    exact⟨by first|rfl|(simp[*,jv,jk] <;> rfl),by(with_reducible repeat(first|apply Kd.zv|apply Kd.zk|apply Kd.zw));exact Kd.R_mono HO_0.out (fun _ hk=>hk.1),by repeat(first|(with_reducible first|exact HB.out|apply G|apply J|apply qq)|exact HB.out),by repeat(first|(with_reducible first|exact HK.out|apply kj.alloc|apply kj.drewN|apply kj.drew)|exact HK.out)⟩
mutual
def qxw.l0:Nat→List Int→List Int→List Int→Int→Int→Option (List Int)
 | 0,_,_,_,_,_=>none
 | k + 1,x0,x3,x13,x14,x15=>if x15 < x14 then(if 0≤x15 then(if x15 < (x13.length:Int) then((zqz.f k x3 (wrap64 (rd x13 x15))).bind fun t105=>(qxw.l0 k x0 t105 x13 x14 (wrap64 (x15 + 1)))) else(none)) else(none)) else((qxv.f k (x0.length:Int)).bind fun t106=>(qxw.l1 k x3 t106 (t106.length:Int) 0))
def qxw.l1:Nat→List Int→List Int→Int→Int→Option (List Int)
 | 0,_,_,_,_=>none
 | k + 1,x3,x26,x27,x28=>if x28 < x27 then(if 0≤x28 then(if x28 < (x26.length:Int) then((zqz.f k x3 (wrap64 (rd x26 x28))).bind fun t110=>(qxw.l1 k t110 x26 x27 (wrap64 (x28 + 1)))) else(none)) else(none)) else(qxw.l2 k x3 0)
def qxw.l2:Nat→List Int→Int→Option (List Int)
 | 0,_,_=>none
 | k + 1,x3,x8=>if x8 < 8 then((zqz.f k x3 0).bind fun t111=>(qxw.l2 k t111 (wrap64 (x8 + 1)))) else(qxw.l3 k ([]:List Int) x3 (x3.length:Int) 0)
def qxw.l3:Nat→List Int→List Int→Int→Int→Option (List Int)
 | 0,_,_,_,_=>none
 | k + 1,x9,x43,x44,x45=>if x45 < x44 then(if 0≤x45 then(if x45 < (x43.length:Int) then((qxv.f k (rd x43 x45)).bind fun t113=>(if x9.length + t113.length < 140737488355328 then(qxw.l3 k (x9 ++ t113) x43 x44 (wrap64 (x45 + 1))) else(none))) else(none)) else(none)) else(some x9)
end
def qxw.f (k:Nat) (l0:List Int):Option (List Int):=qxw.l0 k l0 (([11,22,33,44]:List Int)) l0 (l0.length:Int) 0
theorem qxw.mono_l:∀ k,(∀ y0 y1 y2 y3 y4,LeO (qxw.l0 k y0 y1 y2 y3 y4) (qxw.l0 (k + 1) y0 y1 y2 y3 y4))∧(∀ y0 y1 y2 y3,LeO (qxw.l1 k y0 y1 y2 y3) (qxw.l1 (k + 1) y0 y1 y2 y3))∧(∀ y0 y1,LeO (qxw.l2 k y0 y1) (qxw.l2 (k + 1) y0 y1))∧(∀ y0 y1 y2 y3,LeO (qxw.l3 k y0 y1 y2 y3) (qxw.l3 (k + 1) y0 y1 y2 y3))
 | 0=>⟨fun _ _ _ _ _ r h=>by simp[qxw.l0] at h,fun _ _ _ _ r h=>by simp[qxw.l1] at h,fun _ _ r h=>by simp[qxw.l2] at h,fun _ _ _ _ r h=>by simp[qxw.l3] at h⟩
 | k + 1=>by
  obtain⟨ih0,ih1,ih2,ih3⟩:=qxw.mono_l k
  refine⟨?_,?_,?_,?_⟩
  ·intro y0 y1 y2 y3 y4
   unfold qxw.l0
   repeat' first
   | (with_reducible exact ih0 _ _ _ _ _)
   | (with_reducible exact ih1 _ _ _ _)
   | (with_reducible exact ih2 _ _)
   | (with_reducible exact ih3 _ _ _ _)
   | (with_reducible exact qxv.mono _ _)
   | (with_reducible exact zqz.mono _ _ _)
   | (with_reducible exact LeO.refl _)
   | (with_reducible exact LeO.none _)
   | (with_reducible refine LeO.ite ?_ ?_)
   | (with_reducible refine LeO.bind ?_ (fun _=>?_))
   | exact ih0 _ _ _ _ _
   | exact ih1 _ _ _ _
   | exact ih2 _ _
   | exact ih3 _ _ _ _
   | exact qxv.mono _ _
   | exact zqz.mono _ _ _
   | exact LeO.none _
   | refine LeO.ite ?_ ?_
   | refine LeO.bind ?_ (fun _=>?_)
  ·intro y0 y1 y2 y3
   unfold qxw.l1
   repeat' first
   | (with_reducible exact ih0 _ _ _ _ _)
   | (with_reducible exact ih1 _ _ _ _)
   | (with_reducible exact ih2 _ _)
   | (with_reducible exact ih3 _ _ _ _)
   | (with_reducible exact qxv.mono _ _)
   | (with_reducible exact zqz.mono _ _ _)
   | (with_reducible exact LeO.refl _)
   | (with_reducible exact LeO.none _)
   | (with_reducible refine LeO.ite ?_ ?_)
   | (with_reducible refine LeO.bind ?_ (fun _=>?_))
   | exact ih0 _ _ _ _ _
   | exact ih1 _ _ _ _
   | exact ih2 _ _
   | exact ih3 _ _ _ _
   | exact qxv.mono _ _
   | exact zqz.mono _ _ _
   | exact LeO.none _
   | refine LeO.ite ?_ ?_
   | refine LeO.bind ?_ (fun _=>?_)
  ·intro y0 y1
   unfold qxw.l2
   repeat' first
   | (with_reducible exact ih0 _ _ _ _ _)
   | (with_reducible exact ih1 _ _ _ _)
   | (with_reducible exact ih2 _ _)
   | (with_reducible exact ih3 _ _ _ _)
   | (with_reducible exact qxv.mono _ _)
   | (with_reducible exact zqz.mono _ _ _)
   | (with_reducible exact LeO.refl _)
   | (with_reducible exact LeO.none _)
   | (with_reducible refine LeO.ite ?_ ?_)
   | (with_reducible refine LeO.bind ?_ (fun _=>?_))
   | exact ih0 _ _ _ _ _
   | exact ih1 _ _ _ _
   | exact ih2 _ _
   | exact ih3 _ _ _ _
   | exact qxv.mono _ _
   | exact zqz.mono _ _ _
   | exact LeO.none _
   | refine LeO.ite ?_ ?_
   | refine LeO.bind ?_ (fun _=>?_)
  ·intro y0 y1 y2 y3
   unfold qxw.l3
   repeat' first
   | (with_reducible exact ih0 _ _ _ _ _)
   | (with_reducible exact ih1 _ _ _ _)
   | (with_reducible exact ih2 _ _)
   | (with_reducible exact ih3 _ _ _ _)
   | (with_reducible exact qxv.mono _ _)
   | (with_reducible exact zqz.mono _ _ _)
   | (with_reducible exact LeO.refl _)
   | (with_reducible exact LeO.none _)
   | (with_reducible refine LeO.ite ?_ ?_)
   | (with_reducible refine LeO.bind ?_ (fun _=>?_))
   | exact ih0 _ _ _ _ _
   | exact ih1 _ _ _ _
   | exact ih2 _ _
   | exact ih3 _ _ _ _
   | exact qxv.mono _ _
   | exact zqz.mono _ _ _
   | exact LeO.none _
   | refine LeO.ite ?_ ?_
   | refine LeO.bind ?_ (fun _=>?_)
theorem qxw.mono:∀ a0 k,LeO (qxw.f k a0) (qxw.f (k + 1) a0):=by
 intro a0 k
 obtain⟨ih0,ih1,ih2,ih3⟩:=qxw.mono_l k
 unfold qxw.f
 repeat' first
   | (with_reducible exact ih0 _ _ _ _ _)
   | (with_reducible exact ih1 _ _ _ _)
   | (with_reducible exact ih2 _ _)
   | (with_reducible exact ih3 _ _ _ _)
   | (with_reducible exact qxv.mono _ _)
   | (with_reducible exact zqz.mono _ _ _)
   | (with_reducible exact LeO.refl _)
   | (with_reducible exact LeO.none _)
   | (with_reducible refine LeO.ite ?_ ?_)
   | (with_reducible refine LeO.bind ?_ (fun _=>?_))
   | exact ih0 _ _ _ _ _
   | exact ih1 _ _ _ _
   | exact ih2 _ _
   | exact ih3 _ _ _ _
   | exact qxv.mono _ _
   | exact zqz.mono _ _ _
   | exact LeO.none _
   | refine LeO.ite ?_ ?_
   | refine LeO.bind ?_ (fun _=>?_)
theorem qxw.calls (k:Nat) (A0:Option Addr) (c0:Nat) (l0:List Int) (r:List Int) (w:World) (hr0:Kd.C (Kd.int .u8) w A0 l0.length l0) (hc0:l0.length≤c0) (h:qxw.f k l0=some r) :
  Calls Try.prog 116 #[.slice A0 l0.length c0] w fun e w'=>∃ v0_:Value,e=.returned (v0_)∧Kd.R (Kd.int .u8) 5 w' w.heap.size (fun _=>True) v0_ r∧Below w.heap.size w w':=by
 have HR0:=U.mk hr0
 have HC0:=U.mk hc0
 clear hr0 hc0
 have HB:=U.mk (Below.refl w.heap.size w)
 have H:(qxw.l0 k l0 (([11,22,33,44]:List Int)) l0 (l0.length:Int) 0)=some r:=h
 clear h
 obtain⟨y101,hy101⟩ : ∃ y_:List Int,y_=(([11,22,33,44]:List Int)):=⟨_,rfl⟩
 replace H:(qxw.l0 k l0 y101 l0 (l0.length:Int) 0)=some r:=by first|(rw[hy101];with_reducible exact H)|(have H2_:=(Option.bind_some _ _).symm.trans H;rw[hy101];with_reducible exact H2_)|(have H2_:=(Option.bind_some _ _).symm.trans H;with_reducible exact H2_)|with_reducible exact H|(rw[hy101];exact H)|exact H
 have Ny101:=U.mk hy101
 clear hy101
 have H':=U.mk H
 clear H
 go_enter Try.func116,Try.ntmps116
 go_wp2_with (first|((with_reducible refine gate_dst (N:=12) rfl ?_);refine Kd.R_lit (Kd.int .i64) _ 3 ?hg (N:=12) ?hd (xs:=([11,22,33,44]:List Int)) (inner:=[.int .i64 11,.int .i64 22,.int .i64 33,.int .i64 44]) (ok:=fun _=>True) (okp:=fun _=>True) ?hr ?hp (fun _ hk=>hk) trivial (Below.refl _ _) (Nat.le_refl _) (by simp) ?_;(case hd=>rfl);(case hg=>rfl);(case hr=>first|(go_simp;done)|(go_simp;rfl));(case hp=>exact(Reps.one (show Kd.M (Kd.int .i64) _ _ _ 11 [.int .i64 11] from rfl) (Reps.one (show Kd.M (Kd.int .i64) _ _ _ 22 [.int .i64 22] from rfl) (Reps.one (show Kd.M (Kd.int .i64) _ _ _ 33 [.int .i64 33] from rfl) (Reps.one (show Kd.M (Kd.int .i64) _ _ _ 44 [.int .i64 44] from rfl) (Reps.none _ _))))));intro v102 w2 ho3 hb hg_ hnew_;clear hg_ hnew_;(first|rw[← Ny101.out] at ho3|(simp only[Int.reduceToNat] at ho3;rw[← Ny101.out] at ho3));have HO103:=U.mk (Kd.R_lower ho3 (zj (by solve_by_elim only[HB.out,G,J,qq])));replace HB:=U.mk (zz (by solve_by_elim only[HB.out,G,J,qq]) hb);clear hb ho3))
 go_loopg [15] k (fun kq v15 w'=>∃ (x3_1:List Int) (x15_1:Int),v15=.int .i64 x15_1∧U (qxw.l0 kq l0 x3_1 l0 (l0.length:Int) x15_1=some r)∧U (kq≤k)∧U (Kd.R (Kd.int .i64) 3 w' w.heap.size (fun _=>True) v102 x3_1)∧U (Below w.heap.size w w'))
 case atStart=>exact⟨(y101),(0),(by first|rfl|(simp;done)|(simp[*];done)),H',⟨Nat.le_refl _⟩,⟨by(with_reducible repeat(first|apply Kd.zv|apply Kd.zk|apply Kd.zw));exact HO103.out⟩,⟨by repeat(first|(with_reducible first|exact HB.out|apply G|apply J|apply qq)|exact HB.out)⟩⟩
 case round =>
  clear H'
  try clear c1
  try clear p2
  obtain⟨x3_1,x15_1,rfl,HA,HK1,HO_3,HB⟩:=hrel
  cases gk with
  | zero=>exact absurd HA.out (by simp[qxw.l0])
  | succ k1 =>
   have H:=HA.out
   clear HA
   simp only[qxw.l0] at H
   by_cases c4:x15_1 < (l0.length:Int)
   ·rw[if_pos c4] at H
    have c4b0:decide (x15_1 < (l0.length:Int))=true:=decide_eq_true c4
    clear c4
    by_cases c5 : 0≤x15_1
    ·rw[if_pos c5] at H
     have c5b0:decide (0≤x15_1)=true:=decide_eq_true c5
     clear c5
     by_cases c6:x15_1 < (l0.length:Int)
     ·rw[if_pos c6] at H
      have c6b0:decide (x15_1 < (l0.length:Int))=true:=decide_eq_true c6
      clear c6
      replace H:=jq8.mp H
      obtain⟨t105,A70,H⟩:=H
      try dsimp only at H
      have A7:=U.mk A70
      clear A70
      have H':=U.mk H
      clear H
      have p104 : 0≤(x15_1:Int):=of_decide_eq_true (by assumption)
      have q104:x15_1 < (l0.length:Int):=of_decide_eq_true (by assumption)
      obtain⟨ad104,e104,hx104_0⟩:=Kd.at_int HR0.out x15_1 p104 q104
      cases e104
      replace hx104_0:=(HB.out.cell (World.block_lt_of_cell? w _ hx104_0)).trans hx104_0
      replace p104:=eq_true p104
      replace q104:=eq_true q104
      obtain⟨Ao8,co8,eo8⟩:=Kd.R_slice HO_3.out
      subst eo8
      go_wp2_with (first|((with_reducible refine jw (f:=137) rfl ?_);refine goesL_ (some 22) rfl rfl Try.func137 (by kernel_rfl) rfl #[.slice Ao8 x3_1.length co8,.int .i64 (wrap64 (rd l0 x15_1))] rfl (by(try simp only[jq0,jq1,jq2]);first|done|rfl|(simp only[jq3,jq4];rfl)) ?_;(with_reducible refine(zqz.calls k1 (fun k_=>some k_=(.slice Ao8 x3_1.length co8:Value).ownBlock) (.slice Ao8 x3_1.length co8) x3_1 (wrap64 (rd l0 x15_1)) t105 w _ ?side1 ?side2 A7.out).mono ?_);(case side1=>repeat(first|(with_reducible first|exact HB.out|apply G|apply J|apply qq)|exact HB.out));(case side2=>exact Kd.R_tight rfl HO_3.out);rintro e w9 ⟨rfl,hy0,hb,hkp⟩;refine⟨_,rfl,?_⟩;replace HO_3:=U.mk (Kd.R_reok rfl hy0 (fun k_ e_=>HO_3.out.1 k_ e_));replace HB:=U.mk (hb);(try clear hb hkp hy0)))
      go_roundg k1
      case measure=>have:=HK1.out;omega
      case rel=>exact⟨(t105),(wrap64 (x15_1 + 1)),(by first|rfl|(simp;done)|(simp[*];done)),H',⟨by have:=HK1.out;omega⟩,⟨by(with_reducible repeat(first|apply Kd.zv|apply Kd.zk|apply Kd.zw));exact HO_3.out⟩,⟨by repeat(first|(with_reducible first|exact HB.out|apply G|apply J|apply qq)|exact HB.out)⟩⟩
     ·rw[if_neg c6] at H
      exact absurd H (by simp)
    ·rw[if_neg c5] at H
     exact absurd H (by simp)
   ·rw[if_neg c4] at H
    have c4b0:decide (x15_1 < (l0.length:Int))=false:=decide_eq_false c4
    clear c4
    replace H:=jq8.mp H
    obtain⟨t106,A100,H⟩:=H
    try dsimp only at H
    have A10:=U.mk A100
    clear A100
    have H':=U.mk H
    clear H
    go_wp2_with (first|((with_reducible refine jw (f:=115) rfl ?_);refine goesL_ (some 26) rfl rfl Try.func115 (by kernel_rfl) rfl #[.int .i64 (l0.length:Int)] rfl (by(try simp only[jq0,jq1,jq2]);first|done|rfl|(simp only[jq3,jq4];rfl)) ?_;(with_reducible refine(qxv.calls k1 (l0.length:Int) t106 _ A10.out).mono ?_);rintro e w11 ⟨v107,rfl,ho0,hb⟩;refine⟨_,rfl,?_⟩;replace HO_3:=U.mk (Kd.R_below (by solve_by_elim only[HO_3.out,Kd.zv,Kd.zk,Kd.zw]) hb);have HO108:=U.mk (Kd.R_lower ho0 (zj (by solve_by_elim only[HB.out,G,J,qq])));replace HB:=U.mk (zz (by solve_by_elim only[HB.out,G,J,qq]) hb);(try clear hb ho0);obtain⟨Ao12,co12,eo12⟩:=Kd.R_slice HO108.out;subst eo12))
    go_loopg [28] k1 (fun kq v28 w'=>∃ (x3_2:List Int) (x28_2:Int),v28=.int .i64 x28_2∧U (qxw.l1 kq x3_2 t106 (t106.length:Int) x28_2=some r)∧U (kq≤k1)∧U (Kd.R (Kd.int .i64) 3 w' w.heap.size (fun _=>True) v102 x3_2)∧U (Kd.R (Kd.int .u8) 5 w' w.heap.size (fun _=>True) (.slice Ao12 t106.length co12) t106)∧U (Below w.heap.size w w'))
    case atStart=>exact⟨(x3_1),(0),(by first|rfl|(simp;done)|(simp[*];done)),H',⟨Nat.le_refl _⟩,⟨by(with_reducible repeat(first|apply Kd.zv|apply Kd.zk|apply Kd.zw));exact HO_3.out⟩,⟨by(with_reducible repeat(first|apply Kd.zv|apply Kd.zk|apply Kd.zw));exact HO108.out⟩,⟨by repeat(first|(with_reducible first|exact HB.out|apply G|apply J|apply qq)|exact HB.out)⟩⟩
    case round =>
     clear H'
     try clear c1
     try clear p1
     try clear q1
     try clear hx1
     try clear p2
     try clear c4
     try clear c4b0
     try clear c5
     try clear c5b0
     try clear c6
     try clear c6b0
     try clear p6
     try clear p10
     try clear q10
     try clear hx10
     try clear c11
     try clear hx104_0
     try clear p104
     try clear p2
     try clear q104
     obtain⟨x3_2,x28_2,rfl,HA,HK2,HO_3,HO_26,HB⟩:=hrel
     cases gk with
     | zero=>exact absurd HA.out (by simp[qxw.l1])
     | succ k2 =>
      have H:=HA.out
      clear HA
      simp only[qxw.l1] at H
      by_cases c13:x28_2 < (t106.length:Int)
      ·rw[if_pos c13] at H
       have c13b0:decide (x28_2 < (t106.length:Int))=true:=decide_eq_true c13
       clear c13
       by_cases c14 : 0≤x28_2
       ·rw[if_pos c14] at H
        have c14b0:decide (0≤x28_2)=true:=decide_eq_true c14
        clear c14
        by_cases c15:x28_2 < (t106.length:Int)
        ·rw[if_pos c15] at H
         have c15b0:decide (x28_2 < (t106.length:Int))=true:=decide_eq_true c15
         clear c15
         replace H:=jq8.mp H
         obtain⟨t110,A160,H⟩:=H
         try dsimp only at H
         have A16:=U.mk A160
         clear A160
         have H':=U.mk H
         clear H
         have p109 : 0≤(x28_2:Int):=of_decide_eq_true (by assumption)
         have q109:x28_2 < (t106.length:Int):=of_decide_eq_true (by assumption)
         obtain⟨ad109,e109,hx109_0⟩:=Kd.at_int (Kd.R_reads' HO_26.out).2.2 x28_2 p109 q109
         cases e109
         replace p109:=eq_true p109
         replace q109:=eq_true q109
         obtain⟨Ao17,co17,eo17⟩:=Kd.R_slice HO_3.out
         subst eo17
         go_wp2_with (first|((with_reducible refine jw (f:=137) rfl ?_);refine goesL_ (some 35) rfl rfl Try.func137 (by kernel_rfl) rfl #[.slice Ao17 x3_2.length co17,.int .i64 (wrap64 (rd t106 x28_2))] rfl (by(try simp only[jq0,jq1,jq2]);first|done|rfl|(simp only[jq3,jq4];rfl)) ?_;(with_reducible refine(zqz.calls k2 (fun k_=>some k_=(.slice Ao17 x3_2.length co17:Value).ownBlock) (.slice Ao17 x3_2.length co17) x3_2 (wrap64 (rd t106 x28_2)) t110 w _ ?side1 ?side2 A16.out).mono ?_);(case side1=>repeat(first|(with_reducible first|exact HB.out|apply G|apply J|apply qq)|exact HB.out));(case side2=>exact Kd.R_tight rfl HO_3.out);rintro e w18 ⟨rfl,hy0,hb,hkp⟩;refine⟨_,rfl,?_⟩;replace HO_26:=U.mk (Kd.R_mono (ok':=fun k_=>True) (Kd.R_keptB ((Kd.R_apart' HO_26.out (Kd.R_typed HO_3.out) (by decide))) hkp (fun k_ hk_ hs_=>absurd hs_ (by first|exact hk_.2|((try simp only[and_assoc] at hk_);first|exact hk_.1|exact hk_.2.1|exact hk_.2.2.1|exact hk_.2.2.2.1|exact hk_.2.2.2.2.1|exact hk_.2.2.2.2.2.1|exact hk_.2.2.2.2.2.2.1|exact hk_.2.2.2.2.2.2.2.1|exact hk_.2.2.2.2.2.2.2.2.1|exact hk_.2.2.2.2.2.2.2.2.2.1|exact hk_.2.2.2.2.2.2.2.2.2.2.1|exact hk_.2.2.2.2.2.2.2.2.2.2.2.1|exact hk_.2.2.2.2.2.2.2.2.2.2.2.2.1|exact hk_.2.2.2.2.2.2.2.2.2.2.2.2.2.1|exact hk_.2.2.2.2.2.2.2.2.2.2.2.2.2.2.1|exact hk_.2.2.2.2.2.2.2.2.2.2.2.2.2.2.2.1|exact hk_.2|exact hk_.2.2|exact hk_.2.2.2|exact hk_.2.2.2.2|exact hk_.2.2.2.2.2|exact hk_.2.2.2.2.2.2|exact hk_.2.2.2.2.2.2.2|exact hk_.2.2.2.2.2.2.2.2|exact hk_.2.2.2.2.2.2.2.2.2|exact hk_.2.2.2.2.2.2.2.2.2.2|exact hk_.2.2.2.2.2.2.2.2.2.2.2|exact hk_.2.2.2.2.2.2.2.2.2.2.2.2|exact hk_.2.2.2.2.2.2.2.2.2.2.2.2.2|exact hk_.2.2.2.2.2.2.2.2.2.2.2.2.2.2|exact hk_.2.2.2.2.2.2.2.2.2.2.2.2.2.2.2)))) (fun k_ hk_=>trivial));replace HO_3:=U.mk (Kd.R_reok rfl hy0 (fun k_ e_=>HO_3.out.1 k_ e_));replace HB:=U.mk (hb);(try clear hb hkp hy0)))
         go_roundg k2
         case measure=>have:=HK1.out;have:=HK2.out;omega
         case rel=>exact⟨(t110),(wrap64 (x28_2 + 1)),(by first|rfl|(simp;done)|(simp[*];done)),H',⟨by have:=HK1.out;have:=HK2.out;omega⟩,⟨by(with_reducible repeat(first|apply Kd.zv|apply Kd.zk|apply Kd.zw));exact HO_3.out⟩,⟨by(with_reducible repeat(first|apply Kd.zv|apply Kd.zk|apply Kd.zw));exact HO_26.out⟩,⟨by repeat(first|(with_reducible first|exact HB.out|apply G|apply J|apply qq)|exact HB.out)⟩⟩
        ·rw[if_neg c15] at H
         exact absurd H (by simp)
       ·rw[if_neg c14] at H
        exact absurd H (by simp)
      ·rw[if_neg c13] at H
       have c13b0:decide (x28_2 < (t106.length:Int))=false:=decide_eq_false c13
       clear c13
       have H':=U.mk H
       clear H
       go_wp2
       go_loopg [8] k2 (fun kq v8 w'=>∃ (x3_3:List Int) (x8_3:Int),v8=.int .i64 x8_3∧U (qxw.l2 kq x3_3 x8_3=some r)∧U (kq≤k2)∧U (Kd.R (Kd.int .i64) 3 w' w.heap.size (fun _=>True) v102 x3_3)∧U (Below w.heap.size w w'))
       case atStart=>exact⟨(x3_2),(0),(by first|rfl|(simp;done)|(simp[*];done)),H',⟨Nat.le_refl _⟩,⟨by(with_reducible repeat(first|apply Kd.zv|apply Kd.zk|apply Kd.zw));exact HO_3.out⟩,⟨by repeat(first|(with_reducible first|exact HB.out|apply G|apply J|apply qq)|exact HB.out)⟩⟩
       case round =>
        clear H'
        try clear c1
        try clear p1
        try clear q1
        try clear hx1
        try clear p2
        try clear c4
        try clear c4b0
        try clear c5
        try clear c5b0
        try clear c6
        try clear c6b0
        try clear p6
        try clear p10
        try clear q10
        try clear hx10
        try clear c11
        try clear c13
        try clear c13b0
        try clear c14
        try clear c14b0
        try clear c15
        try clear c15b0
        try clear hx104_0
        try clear hx109_0
        try clear p1
        try clear p10
        try clear p104
        try clear p109
        try clear p2
        try clear p6
        try clear q1
        try clear q10
        try clear q104
        try clear q109
        obtain⟨x3_3,x8_3,rfl,HA,HK3,HO_3,HB⟩:=hrel
        cases gk with
        | zero=>exact absurd HA.out (by simp[qxw.l2])
        | succ k3 =>
         have H:=HA.out
         clear HA
         simp only[qxw.l2] at H
         by_cases c19:x8_3 < 8
         ·rw[if_pos c19] at H
          have c19b0:decide (x8_3 < 8)=true:=decide_eq_true c19
          clear c19
          replace H:=jq8.mp H
          obtain⟨t111,A200,H⟩:=H
          try dsimp only at H
          have A20:=U.mk A200
          clear A200
          have H':=U.mk H
          clear H
          obtain⟨Ao21,co21,eo21⟩:=Kd.R_slice HO_3.out
          subst eo21
          go_wp2_with (first|((with_reducible refine jw (f:=137) rfl ?_);refine goesL_ (some 42) rfl rfl Try.func137 (by kernel_rfl) rfl #[.slice Ao21 x3_3.length co21,.int .i64 0] rfl (by(try simp only[jq0,jq1,jq2]);first|done|rfl|(simp only[jq3,jq4];rfl)) ?_;(with_reducible refine(zqz.calls k3 (fun k_=>some k_=(.slice Ao21 x3_3.length co21:Value).ownBlock) (.slice Ao21 x3_3.length co21) x3_3 0 t111 w _ ?side1 ?side2 A20.out).mono ?_);(case side1=>repeat(first|(with_reducible first|exact HB.out|apply G|apply J|apply qq)|exact HB.out));(case side2=>exact Kd.R_tight rfl HO_3.out);rintro e w22 ⟨rfl,hy0,hb,hkp⟩;refine⟨_,rfl,?_⟩;replace HO_3:=U.mk (Kd.R_reok rfl hy0 (fun k_ e_=>HO_3.out.1 k_ e_));replace HB:=U.mk (hb);(try clear hb hkp hy0)))
          go_roundg k3
          case measure=>have:=HK1.out;have:=HK2.out;have:=HK3.out;omega
          case rel=>exact⟨(t111),(wrap64 (x8_3 + 1)),(by first|rfl|(simp;done)|(simp[*];done)),H',⟨by have:=HK1.out;have:=HK2.out;have:=HK3.out;omega⟩,⟨by(with_reducible repeat(first|apply Kd.zv|apply Kd.zk|apply Kd.zw));exact HO_3.out⟩,⟨by repeat(first|(with_reducible first|exact HB.out|apply G|apply J|apply qq)|exact HB.out)⟩⟩
         ·rw[if_neg c19] at H
          have c19b0:decide (x8_3 < 8)=false:=decide_eq_false c19
          clear c19
          have H':=U.mk H
          clear H
          obtain⟨Ao23,co23,eo23⟩:=Kd.R_slice HO_3.out
          subst eo23
          go_wp2
          go_loopg [9,45] k3 (fun kq v9 v45 w'=>∃ (x9_4:List Int) (x45_4:Int),v45=.int .i64 x45_4∧U (qxw.l3 kq x9_4 x3_3 (x3_3.length:Int) x45_4=some r)∧U (kq≤k3)∧U (Kd.R (Kd.int .u8) 5 w' w.heap.size (fun _=>True) v9 x9_4)∧U (Kd.R (Kd.int .i64) 3 w' w.heap.size (fun _=>True) (.slice Ao23 x3_3.length co23) x3_3)∧U (Below w.heap.size w w'))
          case atStart=>exact⟨(([]:List Int)),(0),(by first|rfl|(simp;done)|(simp[*];done)),H',⟨Nat.le_refl _⟩,⟨by first|exact Kd.R_nil _ _ _ _ _|exact Kd.N_nil _ _ _ _ _|exact Kd.V_nil _ _ _ _ _|exact Kd.Q_nil _ _ _ _ _|exact Kd.S_nil _ _ _ _ _⟩,⟨by(with_reducible repeat(first|apply Kd.zv|apply Kd.zk|apply Kd.zw));exact HO_3.out⟩,⟨by repeat(first|(with_reducible first|exact HB.out|apply G|apply J|apply qq)|exact HB.out)⟩⟩
          case round =>
           clear H'
           try clear c1
           try clear p1
           try clear q1
           try clear hx1
           try clear p2
           try clear c4
           try clear c4b0
           try clear c5
           try clear c5b0
           try clear c6
           try clear c6b0
           try clear p6
           try clear p10
           try clear q10
           try clear hx10
           try clear c11
           try clear c13
           try clear c13b0
           try clear c14
           try clear c14b0
           try clear c15
           try clear c15b0
           try clear c19
           try clear c19b0
           try clear hx104_0
           try clear hx109_0
           try clear p1
           try clear p10
           try clear p104
           try clear p109
           try clear p2
           try clear p6
           try clear q1
           try clear q10
           try clear q104
           try clear q109
           obtain⟨x9_4,x45_4,rfl,HA,HK4,HO_9,HO_43,HB⟩:=hrel
           cases gk with
           | zero=>exact absurd HA.out (by simp[qxw.l3])
           | succ k4 =>
            have H:=HA.out
            clear HA
            simp only[qxw.l3] at H
            by_cases c24:x45_4 < (x3_3.length:Int)
            ·rw[if_pos c24] at H
             have c24b0:decide (x45_4 < (x3_3.length:Int))=true:=decide_eq_true c24
             clear c24
             by_cases c25 : 0≤x45_4
             ·rw[if_pos c25] at H
              have c25b0:decide (0≤x45_4)=true:=decide_eq_true c25
              clear c25
              by_cases c26:x45_4 < (x3_3.length:Int)
              ·rw[if_pos c26] at H
               have c26b0:decide (x45_4 < (x3_3.length:Int))=true:=decide_eq_true c26
               clear c26
               replace H:=jq8.mp H
               obtain⟨t113,A270,H⟩:=H
               try dsimp only at H
               have A27:=U.mk A270
               clear A270
               by_cases c28:x9_4.length + t113.length < 140737488355328
               ·rw[if_pos c28] at H
                have LMc28:=U.mk c28
                clear c28
                obtain⟨y116,hy116⟩ : ∃ y_:List Int,y_=(x9_4 ++ t113):=⟨_,rfl⟩
                replace H:(qxw.l3 k4 y116 x3_3 (x3_3.length:Int) (wrap64 (x45_4 + 1)))=some r:=by first|(rw[hy116];with_reducible exact H)|(have H2_:=(Option.bind_some _ _).symm.trans H;rw[hy116];with_reducible exact H2_)|(have H2_:=(Option.bind_some _ _).symm.trans H;with_reducible exact H2_)|with_reducible exact H|(rw[hy116];exact H)|exact H
                have Ny116:=U.mk hy116
                clear hy116
                have H':=U.mk H
                clear H
                have p112 : 0≤(x45_4:Int):=of_decide_eq_true (by assumption)
                have q112:x45_4 < (x3_3.length:Int):=of_decide_eq_true (by assumption)
                obtain⟨ad112,e112,hx112_0⟩:=Kd.at_int (Kd.R_reads' HO_43.out).2.2 x45_4 p112 q112
                cases e112
                replace p112:=eq_true p112
                replace q112:=eq_true q112
                go_wp2_with (first|((with_reducible refine jw (f:=115) rfl ?_);refine goesL_ (some 51) rfl rfl Try.func115 (by kernel_rfl) rfl #[.int .i64 (rd x3_3 x45_4)] rfl (by(try simp only[jq0,jq1,jq2]);first|done|rfl|(simp only[jq3,jq4];rfl)) ?_;(with_reducible refine(qxv.calls k4 (rd x3_3 x45_4) t113 _ A27.out).mono ?_);rintro e w29 ⟨v114,rfl,ho0,hb⟩;refine⟨_,rfl,?_⟩;replace HO_43:=U.mk (Kd.R_below (by solve_by_elim only[HO_43.out,Kd.zv,Kd.zk,Kd.zw]) hb);have HO115:=U.mk (Kd.R_lower (Kd.R_new' ho0 (Kd.R_lt (by solve_by_elim only[HO_9.out,Kd.zv,Kd.zk,Kd.zw]))) (zj (by solve_by_elim only[HB.out,G,J,qq])));replace HO_9:=U.mk (Kd.R_elder' (by solve_by_elim only[HO_9.out,Kd.zv,Kd.zk,Kd.zw]) (Kd.R_base ho0) hb);replace HB:=U.mk (zz (by solve_by_elim only[HB.out,G,J,qq]) hb);(try clear hb ho0);obtain⟨Ao31,co31,eo31⟩:=Kd.R_slice HO115.out;subst eo31)|((with_reducible refine gate_builtin (b:=.append) (xs:=#[.tmp 49,.tmp 51]) rfl ?_);at_builtin;refine Kd.R_append_rows (Kd.int .u8) (w0:=w) w.heap.size rfl (.tmp 49) (.tmp 51) 22 5 (.int .u8 0) 1 rfl Try.underlying22 info5 rfl (by decide) (by omega) u9 x9_4 t113 _ _ _ (fun k_=>some k_≠(.slice Ao31 t113.length co31:Value).ownBlock) (fun _=>False) rfl rfl ?aO ?aR (fun _ _ h=>h) (fun _ h=>h.elim) ?aF ?aB ?aS ?aL ?_;(case aR=>repeat(first|exact(Kd.R_reads' HO115.out).2.2|(with_reducible refine Kd.C_alloc ?_ _)|(with_reducible refine Kd.C_drewN ?_ _)|(with_reducible refine Kd.C_drew ?_)));(case aB=>exact(by solve_by_elim only[HB.out,G,J,qq]));(case aF=>exact(fun k_ hk=>Kd.fresh' (Kd.R_lt (by solve_by_elim only[HO115.out,Kd.zv,Kd.zk,Kd.zw])) k_ hk));(case aO=>exact(by(with_reducible repeat(first|apply Kd.zv|apply Kd.zk|apply Kd.zw));exact Kd.R_mono HO_9.out (fun _ hk=>hk.2)));(case aS=>exact(zj (by solve_by_elim only[HB.out,G,J,qq])));(case aL=>have:=LMc28.out;omega);intro v117 w30 ho hb hg hat;rw[← Ny116.out] at ho;replace HO_43:=U.mk (Kd.R_over' (by solve_by_elim only[HO_43.out,Kd.zv,Kd.zk,Kd.zw]) (Kd.R_typed (by solve_by_elim only[HO_9.out,Kd.zv,Kd.zk,Kd.zw])) (by decide) hg);replace HO115:=U.mk (Kd.R_after (ok:=(fun _=>True)) (by solve_by_elim only[HO115.out,Kd.zv,Kd.zk,Kd.zw]) hg hat);replace HB:=U.mk (hb);have HO118:=U.mk (ho);clear HO_9;clear ho hb hg hat))
                go_roundg k4
                case measure=>have:=HK1.out;have:=HK2.out;have:=HK3.out;have:=HK4.out;omega
                case rel=>exact⟨(y116),(wrap64 (x45_4 + 1)),(by first|rfl|(simp;done)|(simp[*];done)),H',⟨by have:=HK1.out;have:=HK2.out;have:=HK3.out;have:=HK4.out;omega⟩,⟨by(with_reducible repeat(first|apply Kd.zv|apply Kd.zk|apply Kd.zw));exact Kd.R_mono HO118.out (fun _ hk=>trivial)⟩,⟨by(with_reducible repeat(first|apply Kd.zv|apply Kd.zk|apply Kd.zw));exact HO_43.out⟩,⟨by repeat(first|(with_reducible first|exact HB.out|apply G|apply J|apply qq)|exact HB.out)⟩⟩
               ·rw[if_neg c28] at H
                exact absurd H (by simp)
              ·rw[if_neg c26] at H
               exact absurd H (by simp)
             ·rw[if_neg c25] at H
              exact absurd H (by simp)
            ·rw[if_neg c24] at H
             have c24b0:decide (x45_4 < (x3_3.length:Int))=false:=decide_eq_false c24
             clear c24
             obtain rfl:=Option.some.inj H
             go_wp2
             go_ret
             exact⟨_,by first|rfl|(simp[*,jv,jk] <;> rfl),by(with_reducible repeat(first|apply Kd.zv|apply Kd.zk|apply Kd.zw));exact HO_9.out,by repeat(first|(with_reducible first|exact HB.out|apply G|apply J|apply qq)|exact HB.out)⟩
def zzq.f (k:Nat) (l0:List Int) (l1:List Int):Option (List Int):=if ([]:List Int).length + l0.length < 140737488355328 then((some (([]:List Int) ++ l0:List Int)).bind fun y101=>(if y101.length + l1.length < 140737488355328 then((qxw.f k (y101 ++ l1)).bind fun t107=>(some t107)) else(none))) else(none)
theorem zzq.calls (k:Nat) (A0:Option Addr) (c0:Nat) (l0:List Int) (A1:Option Addr) (c1:Nat) (l1:List Int) (r:List Int) (w:World) (hr0:Kd.C (Kd.int .u8) w A0 l0.length l0) (hc0:l0.length≤c0) (hr1:Kd.C (Kd.int .u8) w A1 l1.length l1) (hc1:l1.length≤c1) (h:zzq.f k l0 l1=some r) :
  Calls Try.prog 136 #[.slice A0 l0.length c0,.slice A1 l1.length c1] w fun e w'=>∃ v0_:Value,e=.returned (v0_)∧Kd.R (Kd.int .u8) 5 w' w.heap.size (fun _=>True) v0_ r∧Below w.heap.size w w':=by
 have HR0:=U.mk hr0
 have HC0:=U.mk hc0
 clear hr0 hc0
 have HR1:=U.mk hr1
 have HC1:=U.mk hc1
 clear hr1 hc1
 have HB:=U.mk (Below.refl w.heap.size w)
 unfold zzq.f at h
 have H:=h
 clear h
 by_cases c3:([]:List Int).length + l0.length < 140737488355328
 ·rw[if_pos c3] at H
  have LMc3:=U.mk c3
  clear c3
  obtain⟨y101,hy101⟩ : ∃ y_:List Int,y_=(([]:List Int) ++ l0):=⟨_,rfl⟩
  replace H:(if y101.length + l1.length < 140737488355328 then((qxw.f k (y101 ++ l1)).bind fun t107=>(some t107)) else(none))=some r:=by first|(rw[hy101];with_reducible exact H)|(have H2_:=(Option.bind_some _ _).symm.trans H;rw[hy101];with_reducible exact H2_)|(have H2_:=(Option.bind_some _ _).symm.trans H;with_reducible exact H2_)|with_reducible exact H|(rw[hy101];exact H)|exact H
  have Ny101:=U.mk hy101
  clear hy101
  by_cases c4:y101.length + l1.length < 140737488355328
  ·rw[if_pos c4] at H
   have LMc4:=U.mk c4
   clear c4
   obtain⟨y104,hy104⟩ : ∃ y_:List Int,y_=(y101 ++ l1):=⟨_,rfl⟩
   replace H:((qxw.f k y104).bind fun t107=>(some t107))=some r:=by first|(rw[hy104];with_reducible exact H)|(have H2_:=(Option.bind_some _ _).symm.trans H;rw[hy104];with_reducible exact H2_)|(have H2_:=(Option.bind_some _ _).symm.trans H;with_reducible exact H2_)|with_reducible exact H|(rw[hy104];exact H)|exact H
   have Ny104:=U.mk hy104
   clear hy104
   replace H:=jq8.mp H
   obtain⟨t107,A50,H⟩:=H
   replace H:(some t107)=some r:=H
   have A5:=U.mk A50
   clear A50
   obtain rfl:=Option.some.inj H
   go_enter Try.func136,Try.ntmps136
   go_wp2_with (first|((with_reducible refine gate_builtin (b:=.append) (xs:=#[.tmp 6,.tmp 7]) rfl ?_);at_builtin;refine Kd.R_append_rows (Kd.int .u8) (w0:=w) w.heap.size rfl (.tmp 6) (.tmp 7) 22 5 (.int .u8 0) 1 rfl Try.underlying22 info5 rfl (by decide) (by omega) (.slice none 0 0) ([]:List Int) l0 _ _ _ (fun _=>True) (fun _=>False) rfl rfl ?aO ?aR (fun _ _ h=>h) (fun _ h=>h.elim) ?aF ?aB ?aS ?aL ?_;(case aR=>repeat(first|exact HR0.out|(with_reducible refine Kd.C_alloc ?_ _)|(with_reducible refine Kd.C_drewN ?_ _)|(with_reducible refine Kd.C_drew ?_)));(case aB=>exact(by solve_by_elim only[HB.out,G,J,qq]));(case aF=>exact(fun _ _=>trivial));(case aO=>exact((Kd.R_nil _ _ _ _ (fun _=>True))));(case aS=>exact(zj (by solve_by_elim only[HB.out,G,J,qq])));(case aL=>have:=LMc3.out;omega);intro v102 w6 ho hb hg hat;rw[← Ny101.out] at ho;replace HB:=U.mk (hb);have HO103:=U.mk (ho);clear ho hb hg hat)|((with_reducible refine gate_builtin (b:=.append) (xs:=#[.tmp 8,.tmp 9]) rfl ?_);at_builtin;refine Kd.R_append_rows (Kd.int .u8) (w0:=w) w.heap.size rfl (.tmp 8) (.tmp 9) 22 5 (.int .u8 0) 1 rfl Try.underlying22 info5 rfl (by decide) (by omega) v102 y101 l1 _ _ _ (fun _=>True) (fun _=>False) rfl rfl ?aO ?aR (fun _ _ h=>h) (fun _ h=>h.elim) ?aF ?aB ?aS ?aL ?_;(case aR=>repeat(first|exact(Kd.C_below HR1.out HB.out)|(with_reducible refine Kd.C_alloc ?_ _)|(with_reducible refine Kd.C_drewN ?_ _)|(with_reducible refine Kd.C_drew ?_)));(case aB=>exact(by solve_by_elim only[HB.out,G,J,qq]));(case aF=>exact(fun _ _=>trivial));(case aO=>exact(by solve_by_elim only[HO103.out,Kd.zv,Kd.zk,Kd.zw]));(case aS=>exact(zj (by solve_by_elim only[HB.out,G,J,qq])));(case aL=>have:=LMc4.out;omega);intro v105 w7 ho hb hg hat;rw[← Ny104.out] at ho;replace HB:=U.mk (hb);have HO106:=U.mk (ho);clear HO103;clear ho hb hg hat;obtain⟨Ao8,co8,eo8⟩:=Kd.R_slice HO106.out;subst eo8)|((with_reducible refine jw (f:=116) rfl ?_);refine goesL_ (some 11) rfl rfl Try.func116 (by kernel_rfl) rfl #[.slice Ao8 y104.length co8] rfl (by(try simp only[jq0,jq1,jq2]);first|done|rfl|(simp only[jq3,jq4];rfl)) ?_;(with_reducible refine(qxw.calls k _ _ y104 t107 _ ?side1 ?side2 A5.out).mono ?_);(case side1=>solve_by_elim only[(Kd.R_reads' HO106.out).2.2,Kd.C_alloc,Kd.C_drewN,Kd.C_drew]);(case side2=>exact(Kd.R_reads' HO106.out).2.1);rintro e w9 ⟨v108,rfl,ho0,hb⟩;refine⟨_,rfl,?_⟩;have HO109:=U.mk (Kd.R_lower (Kd.R_new' ho0 (Kd.R_lt (by solve_by_elim only[HO106.out,Kd.zv,Kd.zk,Kd.zw]))) (zj (by solve_by_elim only[HB.out,G,J,qq])));replace HO106:=U.mk (Kd.R_elder' (by solve_by_elim only[HO106.out,Kd.zv,Kd.zk,Kd.zw]) (Kd.R_base ho0) hb);replace HB:=U.mk (zz (by solve_by_elim only[HB.out,G,J,qq]) hb);(try clear hb ho0)))
   go_ret
   exact⟨_,by first|rfl|(simp[*,jv,jk] <;> rfl),by(with_reducible repeat(first|apply Kd.zv|apply Kd.zk|apply Kd.zw));exact Kd.R_mono HO109.out (fun _ hk=>trivial),by repeat(first|(with_reducible first|exact HB.out|apply G|apply J|apply qq)|exact HB.out)⟩
  ·rw[if_neg c4] at H
   exact absurd H (by simp)
 ·rw[if_neg c3] at H
  exact absurd H (by simp)
def zqq.f (k:Nat) (l0:List Int) (l1:List Int):Option (List Int):=(qxw.f k l0).bind fun t101=>((qxw.f k l1).bind fun t104=>((zzq.f k t101 t104).bind fun t107=>(some t107)))
theorem zqq.calls (k:Nat) (A0:Option Addr) (c0:Nat) (l0:List Int) (A1:Option Addr) (c1:Nat) (l1:List Int) (r:List Int) (w:World) (hr0:Kd.C (Kd.int .u8) w A0 l0.length l0) (hc0:l0.length≤c0) (hr1:Kd.C (Kd.int .u8) w A1 l1.length l1) (hc1:l1.length≤c1) (h:zqq.f k l0 l1=some r) :
  Calls Try.prog 114 #[.slice A0 l0.length c0,.slice A1 l1.length c1] w fun e w'=>∃ v0_:Value,e=.returned (v0_)∧Kd.R (Kd.int .u8) 5 w' w.heap.size (fun _=>True) v0_ r∧Below w.heap.size w w':=by
 have HR0:=U.mk hr0
 have HC0:=U.mk hc0
 clear hr0 hc0
 have HR1:=U.mk hr1
 have HC1:=U.mk hc1
 clear hr1 hc1
 have HB:=U.mk (Below.refl w.heap.size w)
 unfold zqq.f at h
 have H:=h
 clear h
 replace H:=jq8.mp H
 obtain⟨t101,A30,H⟩:=H
 try dsimp only at H
 have A3:=U.mk A30
 clear A30
 replace H:=jq8.mp H
 obtain⟨t104,A40,H⟩:=H
 try dsimp only at H
 have A4:=U.mk A40
 clear A40
 replace H:=jq8.mp H
 obtain⟨t107,A50,H⟩:=H
 replace H:(some t107)=some r:=H
 have A5:=U.mk A50
 clear A50
 obtain rfl:=Option.some.inj H
 go_enter Try.func114,Try.ntmps114
 go_wp2_with (first|((with_reducible refine jw (f:=116) rfl ?_);refine goesL_ (some 6) rfl rfl Try.func116 (by kernel_rfl) rfl #[.slice A0 l0.length c0] rfl (by(try simp only[jq0,jq1,jq2]);first|done|rfl|(simp only[jq3,jq4];rfl)) ?_;(with_reducible refine(qxw.calls k _ _ l0 t101 _ ?side1 ?side2 A3.out).mono ?_);(case side1=>solve_by_elim only[HR0.out,Kd.C_alloc,Kd.C_drewN,Kd.C_drew]);(case side2=>exact HC0.out);rintro e w6 ⟨v102,rfl,ho0,hb⟩;refine⟨_,rfl,?_⟩;have HO103:=U.mk (Kd.R_lower ho0 (zj (by solve_by_elim only[HB.out,G,J,qq])));replace HB:=U.mk (zz (by solve_by_elim only[HB.out,G,J,qq]) hb);(try clear hb ho0))|((with_reducible refine jw (f:=116) rfl ?_);refine goesL_ (some 8) rfl rfl Try.func116 (by kernel_rfl) rfl #[.slice A1 l1.length c1] rfl (by(try simp only[jq0,jq1,jq2]);first|done|rfl|(simp only[jq3,jq4];rfl)) ?_;(with_reducible refine(qxw.calls k _ _ l1 t104 _ ?side1 ?side2 A4.out).mono ?_);(case side1=>solve_by_elim only[(Kd.C_below HR1.out HB.out),Kd.C_alloc,Kd.C_drewN,Kd.C_drew]);(case side2=>exact HC1.out);rintro e w7 ⟨v105,rfl,ho0,hb⟩;refine⟨_,rfl,?_⟩;have HO106:=U.mk (Kd.R_lower (Kd.R_new' ho0 (Kd.R_lt (by solve_by_elim only[HO103.out,Kd.zv,Kd.zk,Kd.zw]))) (zj (by solve_by_elim only[HB.out,G,J,qq])));replace HO103:=U.mk (Kd.R_elder' (by solve_by_elim only[HO103.out,Kd.zv,Kd.zk,Kd.zw]) (Kd.R_base ho0) hb);replace HB:=U.mk (zz (by solve_by_elim only[HB.out,G,J,qq]) hb);(try clear hb ho0);obtain⟨Ao8,co8,eo8⟩:=Kd.R_slice HO103.out;subst eo8;obtain⟨Ao9,co9,eo9⟩:=Kd.R_slice HO106.out;subst eo9)|((with_reducible refine jw (f:=136) rfl ?_);refine goesL_ (some 9) rfl rfl Try.func136 (by kernel_rfl) rfl #[.slice Ao8 t101.length co8,.slice Ao9 t104.length co9] rfl (by(try simp only[jq0,jq1,jq2]);first|done|rfl|(simp only[jq3,jq4];rfl)) ?_;(with_reducible refine(zzq.calls k _ _ t101 _ _ t104 t107 _ ?side1 ?side2 ?side3 ?side4 A5.out).mono ?_);(case side1=>solve_by_elim only[(Kd.R_reads' HO103.out).2.2,Kd.C_alloc,Kd.C_drewN,Kd.C_drew]);(case side2=>exact(Kd.R_reads' HO103.out).2.1);(case side3=>solve_by_elim only[(Kd.R_reads' HO106.out).2.2,Kd.C_alloc,Kd.C_drewN,Kd.C_drew]);(case side4=>exact(Kd.R_reads' HO106.out).2.1);rintro e w10 ⟨v108,rfl,ho0,hb⟩;refine⟨_,rfl,?_⟩;have HO109:=U.mk (Kd.R_lower (Kd.R_new' (Kd.R_new' ho0 (Kd.R_lt (by solve_by_elim only[HO103.out,Kd.zv,Kd.zk,Kd.zw]))) (Kd.R_lt (by solve_by_elim only[HO106.out,Kd.zv,Kd.zk,Kd.zw]))) (zj (by solve_by_elim only[HB.out,G,J,qq])));replace HO103:=U.mk (Kd.R_elder' (by solve_by_elim only[HO103.out,Kd.zv,Kd.zk,Kd.zw]) (Kd.R_base ho0) hb);replace HO106:=U.mk (Kd.R_elder' (by solve_by_elim only[HO106.out,Kd.zv,Kd.zk,Kd.zw]) (Kd.R_base ho0) hb);replace HB:=U.mk (zz (by solve_by_elim only[HB.out,G,J,qq]) hb);(try clear hb ho0)))
 go_ret
 exact⟨_,by first|rfl|(simp[*,jv,jk] <;> rfl),by(with_reducible repeat(first|apply Kd.zv|apply Kd.zk|apply Kd.zw));exact Kd.R_mono HO109.out (fun _ hk=>trivial),by repeat(first|(with_reducible first|exact HB.out|apply G|apply J|apply qq)|exact HB.out)⟩
end Go.Proofs.Ytipdkendfcopiaa.Pr
namespace Go.Proofs.Ytipdkendfcopiaa.Pr
open Go.RowKit Go.Proofs.YtipdkendfcopiaaW.PrintWords Go.Proofs.YtipdkendfcopiaaW.PrintLast Go.Proofs.YtipdkendfcopiaaW.PrintMore
attribute [local go_sem] max2_int min2_int max_two min_two max_three min_three max_four min_four
set_option linter.unusedVariables false
set_option linter.unusedSimpArgs false
def qxx.f (k:Nat) (a0:Int) (l1:List Int):Option (Int):=(qxv.f k a0).bind fun t101=>(if ([]:List Int).length + t101.length < 140737488355328 then((some (([]:List Int) ++ t101:List Int)).bind fun y104=>((qxw.f k l1).bind fun t107=>(if y104.length + t107.length < 140737488355328 then((qxw.f k (y104 ++ t107)).bind fun t113=>((zqj.f k t113).bind fun t116=>(some (Int.tmod t116 1073741789)))) else(none)))) else(none))
theorem qxx.calls (k:Nat) (a0:Int) (A1:Option Addr) (c1:Nat) (l1:List Int) (r:Int) (w:World) (hr1:Kd.C (Kd.int .u8) w A1 l1.length l1) (hc1:l1.length≤c1) (h:qxx.f k a0 l1=some r) :
  Calls Try.prog 126 #[.int .i64 a0,.slice A1 l1.length c1] w fun e w'=>e=.returned (.int .i64 r)∧Below w.heap.size w w':=by
 have HR1:=U.mk hr1
 have HC1:=U.mk hc1
 clear hr1 hc1
 have HB:=U.mk (Below.refl w.heap.size w)
 unfold qxx.f at h
 have H:=h
 clear h
 replace H:=jq8.mp H
 obtain⟨t101,A30,H⟩:=H
 try dsimp only at H
 have A3:=U.mk A30
 clear A30
 by_cases c4:([]:List Int).length + t101.length < 140737488355328
 ·rw[if_pos c4] at H
  have LMc4:=U.mk c4
  clear c4
  obtain⟨y104,hy104⟩ : ∃ y_:List Int,y_=(([]:List Int) ++ t101):=⟨_,rfl⟩
  replace H:((qxw.f k l1).bind fun t107=>(if y104.length + t107.length < 140737488355328 then((qxw.f k (y104 ++ t107)).bind fun t113=>((zqj.f k t113).bind fun t116=>(some (Int.tmod t116 1073741789)))) else(none)))=some r:=by first|(rw[hy104];with_reducible exact H)|(have H2_:=(Option.bind_some _ _).symm.trans H;rw[hy104];with_reducible exact H2_)|(have H2_:=(Option.bind_some _ _).symm.trans H;with_reducible exact H2_)|with_reducible exact H|(rw[hy104];exact H)|exact H
  have Ny104:=U.mk hy104
  clear hy104
  replace H:=jq8.mp H
  obtain⟨t107,A50,H⟩:=H
  try dsimp only at H
  have A5:=U.mk A50
  clear A50
  by_cases c6:y104.length + t107.length < 140737488355328
  ·rw[if_pos c6] at H
   have LMc6:=U.mk c6
   clear c6
   obtain⟨y110,hy110⟩ : ∃ y_:List Int,y_=(y104 ++ t107):=⟨_,rfl⟩
   replace H:((qxw.f k y110).bind fun t113=>((zqj.f k t113).bind fun t116=>(some (Int.tmod t116 1073741789))))=some r:=by first|(rw[hy110];with_reducible exact H)|(have H2_:=(Option.bind_some _ _).symm.trans H;rw[hy110];with_reducible exact H2_)|(have H2_:=(Option.bind_some _ _).symm.trans H;with_reducible exact H2_)|with_reducible exact H|(rw[hy110];exact H)|exact H
   have Ny110:=U.mk hy110
   clear hy110
   replace H:=jq8.mp H
   obtain⟨t113,A70,H⟩:=H
   try dsimp only at H
   have A7:=U.mk A70
   clear A70
   replace H:=jq8.mp H
   obtain⟨t116,A80,H⟩:=H
   try dsimp only at H
   have A8:=U.mk A80
   clear A80
   obtain rfl:=Option.some.inj H
   go_enter Try.func126,Try.ntmps126
   go_wp2_with (first|((with_reducible refine jw (f:=115) rfl ?_);refine goesL_ (some 8) rfl rfl Try.func115 (by kernel_rfl) rfl #[.int .i64 a0] rfl (by(try simp only[jq0,jq1,jq2]);first|done|rfl|(simp only[jq3,jq4];rfl)) ?_;(with_reducible refine(qxv.calls k a0 t101 _ A3.out).mono ?_);rintro e w9 ⟨v102,rfl,ho0,hb⟩;refine⟨_,rfl,?_⟩;have HO103:=U.mk (Kd.R_lower ho0 (zj (by solve_by_elim only[HB.out,G,J,qq])));replace HB:=U.mk (zz (by solve_by_elim only[HB.out,G,J,qq]) hb);(try clear hb ho0);obtain⟨Ao11,co11,eo11⟩:=Kd.R_slice HO103.out;subst eo11)|((with_reducible refine gate_builtin (b:=.append) (xs:=#[.tmp 6,.tmp 8]) rfl ?_);at_builtin;refine Kd.R_append_rows (Kd.int .u8) (w0:=w) w.heap.size rfl (.tmp 6) (.tmp 8) 22 5 (.int .u8 0) 1 rfl Try.underlying22 info5 rfl (by decide) (by omega) (.slice none 0 0) ([]:List Int) t101 _ _ _ (fun k_=>some k_≠(.slice Ao11 t101.length co11:Value).ownBlock) (fun _=>False) rfl rfl ?aO ?aR (fun _ _ h=>h) (fun _ h=>h.elim) ?aF ?aB ?aS ?aL ?_;(case aR=>repeat(first|exact(Kd.R_reads' HO103.out).2.2|(with_reducible refine Kd.C_alloc ?_ _)|(with_reducible refine Kd.C_drewN ?_ _)|(with_reducible refine Kd.C_drew ?_)));(case aB=>exact(by solve_by_elim only[HB.out,G,J,qq]));(case aF=>exact(fun k_ hk=>Kd.fresh' (Kd.R_lt (by solve_by_elim only[HO103.out,Kd.zv,Kd.zk,Kd.zw])) k_ hk));(case aO=>exact((Kd.R_nil _ _ _ _ (fun k_=>some k_≠(.slice Ao11 t101.length co11:Value).ownBlock))));(case aS=>exact(zj (by solve_by_elim only[HB.out,G,J,qq])));(case aL=>have:=LMc4.out;omega);intro v105 w10 ho hb hg hat;rw[← Ny104.out] at ho;replace HO103:=U.mk (Kd.R_after (Kd.R_apart_nil (by solve_by_elim only[HO103.out,Kd.zv,Kd.zk,Kd.zw])) hg hat);replace HB:=U.mk (hb);have HO106:=U.mk (ho);clear ho hb hg hat)|((with_reducible refine jw (f:=116) rfl ?_);refine goesL_ (some 11) rfl rfl Try.func116 (by kernel_rfl) rfl #[.slice A1 l1.length c1] rfl (by(try simp only[jq0,jq1,jq2]);first|done|rfl|(simp only[jq3,jq4];rfl)) ?_;(with_reducible refine(qxw.calls k _ _ l1 t107 _ ?side1 ?side2 A5.out).mono ?_);(case side1=>solve_by_elim only[(Kd.C_below HR1.out HB.out),Kd.C_alloc,Kd.C_drewN,Kd.C_drew]);(case side2=>exact HC1.out);rintro e w12 ⟨v108,rfl,ho0,hb⟩;refine⟨_,rfl,?_⟩;have HO109:=U.mk (Kd.R_lower (Kd.R_new' (Kd.R_new' ho0 (Kd.R_lt (by solve_by_elim only[HO103.out,Kd.zv,Kd.zk,Kd.zw]))) (Kd.R_lt (by solve_by_elim only[HO106.out,Kd.zv,Kd.zk,Kd.zw]))) (zj (by solve_by_elim only[HB.out,G,J,qq])));replace HO103:=U.mk (Kd.R_elder' (by solve_by_elim only[HO103.out,Kd.zv,Kd.zk,Kd.zw]) (Kd.R_base ho0) hb);replace HO106:=U.mk (Kd.R_elder' (by solve_by_elim only[HO106.out,Kd.zv,Kd.zk,Kd.zw]) (Kd.R_base ho0) hb);replace HB:=U.mk (zz (by solve_by_elim only[HB.out,G,J,qq]) hb);(try clear hb ho0);obtain⟨Ao14,co14,eo14⟩:=Kd.R_slice HO109.out;subst eo14)|((with_reducible refine gate_builtin (b:=.append) (xs:=#[.tmp 9,.tmp 11]) rfl ?_);at_builtin;refine Kd.R_append_rows (Kd.int .u8) (w0:=w) w.heap.size rfl (.tmp 9) (.tmp 11) 22 5 (.int .u8 0) 1 rfl Try.underlying22 info5 rfl (by decide) (by omega) v105 y104 t107 _ _ _ (fun k_=>some k_≠(.slice Ao11 t101.length co11:Value).ownBlock∧some k_≠(.slice Ao14 t107.length co14:Value).ownBlock) (fun _=>False) rfl rfl ?aO ?aR (fun _ _ h=>h) (fun _ h=>h.elim) ?aF ?aB ?aS ?aL ?_;(case aR=>repeat(first|exact(Kd.R_reads' HO109.out).2.2|(with_reducible refine Kd.C_alloc ?_ _)|(with_reducible refine Kd.C_drewN ?_ _)|(with_reducible refine Kd.C_drew ?_)));(case aB=>exact(by solve_by_elim only[HB.out,G,J,qq]));(case aF=>exact(fun k_ hk=>⟨Kd.fresh' (Kd.R_lt (by solve_by_elim only[HO103.out,Kd.zv,Kd.zk,Kd.zw])) k_ hk,Kd.fresh' (Kd.R_lt (by solve_by_elim only[HO109.out,Kd.zv,Kd.zk,Kd.zw])) k_ hk⟩));(case aO=>exact(by solve_by_elim only[HO106.out,Kd.zv,Kd.zk,Kd.zw]));(case aS=>exact(zj (by solve_by_elim only[HB.out,G,J,qq])));(case aL=>have:=LMc6.out;omega);intro v111 w13 ho hb hg hat;rw[← Ny110.out] at ho;replace HO103:=U.mk (Kd.R_after (ok:=(fun k_=>some k_≠(.slice Ao14 t107.length co14:Value).ownBlock)) (by(with_reducible repeat(first|apply Kd.zv|apply Kd.zk|apply Kd.zw));exact Kd.R_mono HO103.out (fun _ hk=>⟨hk.2,hk.1.2⟩)) hg hat);replace HO109:=U.mk (Kd.R_after (ok:=(fun k_=>some k_≠(.slice Ao11 t101.length co11:Value).ownBlock)) (by(with_reducible repeat(first|apply Kd.zv|apply Kd.zk|apply Kd.zw));exact Kd.R_mono HO109.out (fun _ hk=>⟨hk.1.2,hk.2⟩)) hg hat);replace HB:=U.mk (hb);have HO112:=U.mk (ho);clear HO106;clear ho hb hg hat;obtain⟨Ao15,co15,eo15⟩:=Kd.R_slice HO112.out;subst eo15)|((with_reducible refine jw (f:=116) rfl ?_);refine goesL_ (some 14) rfl rfl Try.func116 (by kernel_rfl) rfl #[.slice Ao15 y110.length co15] rfl (by(try simp only[jq0,jq1,jq2]);first|done|rfl|(simp only[jq3,jq4];rfl)) ?_;(with_reducible refine(qxw.calls k _ _ y110 t113 _ ?side1 ?side2 A7.out).mono ?_);(case side1=>solve_by_elim only[(Kd.R_reads' HO112.out).2.2,Kd.C_alloc,Kd.C_drewN,Kd.C_drew]);(case side2=>exact(Kd.R_reads' HO112.out).2.1);rintro e w16 ⟨v114,rfl,ho0,hb⟩;refine⟨_,rfl,?_⟩;have HO115:=U.mk (Kd.R_lower (Kd.R_new' (Kd.R_new' (Kd.R_new' ho0 (Kd.R_lt (by solve_by_elim only[HO103.out,Kd.zv,Kd.zk,Kd.zw]))) (Kd.R_lt (by solve_by_elim only[HO109.out,Kd.zv,Kd.zk,Kd.zw]))) (Kd.R_lt (by solve_by_elim only[HO112.out,Kd.zv,Kd.zk,Kd.zw]))) (zj (by solve_by_elim only[HB.out,G,J,qq])));replace HO103:=U.mk (Kd.R_elder' (by solve_by_elim only[HO103.out,Kd.zv,Kd.zk,Kd.zw]) (Kd.R_base ho0) hb);replace HO109:=U.mk (Kd.R_elder' (by solve_by_elim only[HO109.out,Kd.zv,Kd.zk,Kd.zw]) (Kd.R_base ho0) hb);replace HO112:=U.mk (Kd.R_elder' (by solve_by_elim only[HO112.out,Kd.zv,Kd.zk,Kd.zw]) (Kd.R_base ho0) hb);replace HB:=U.mk (zz (by solve_by_elim only[HB.out,G,J,qq]) hb);(try clear hb ho0);obtain⟨Ao17,co17,eo17⟩:=Kd.R_slice HO115.out;subst eo17)|((with_reducible refine jw (f:=129) rfl ?_);refine goesL_ (some 15) rfl rfl Try.func129 (by kernel_rfl) rfl #[.slice Ao17 t113.length co17] rfl (by(try simp only[jq0,jq1,jq2]);first|done|rfl|(simp only[jq3,jq4];rfl)) ?_;(with_reducible refine(zqj.calls k _ _ t113 t116 _ ?side1 ?side2 A8.out).mono ?_);(case side1=>solve_by_elim only[(Kd.R_reads' HO115.out).2.2,Kd.C_alloc,Kd.C_drewN,Kd.C_drew]);(case side2=>exact(Kd.R_reads' HO115.out).2.1);rintro e w' ⟨rfl,⟨nd,rfl⟩⟩;refine⟨_,rfl,?_⟩))
   go_ret
   exact⟨by first|rfl|(simp[*,jv,jk] <;> rfl),by repeat(first|(with_reducible first|exact HB.out|apply G|apply J|apply qq)|exact HB.out)⟩
  ·rw[if_neg c6] at H
   exact absurd H (by simp)
 ·rw[if_neg c4] at H
  exact absurd H (by simp)
end Go.Proofs.Ytipdkendfcopiaa.Pr
namespace Go.Proofs.Ytipdkendfcopiaa.Pr
open Go.RowKit Go.Proofs.YtipdkendfcopiaaW.PrintWords Go.Proofs.YtipdkendfcopiaaW.PrintLast Go.Proofs.YtipdkendfcopiaaW.PrintMore
attribute [local go_sem] max2_int min2_int max_two min_two max_three min_three max_four min_four
set_option linter.unusedVariables false
set_option linter.unusedSimpArgs false
def qkw.j0:Nat→Int→List Int→Bool→Int→Int→Option (Bool)
 | 0,_,_,_,_,_=>none
 | k + 1,x0,x1,x34,x102000,x102001=>if x34=true then(some false) else((zqk.f k 4 x102001 2147483579).bind fun t103=>((qxx.f k x102000 x1).bind fun t104=>((zqk.f k x0 t104 2147483579).bind fun t105=>(some (t103 == (Int.tmod (wrap64 (x102000 * t105)) 2147483579))))))
def qkw.f (k:Nat) (a0:Int) (l1:List Int) (a2_0:Int) (a2_1:Int):Option (Bool):=(zqv.f k a0).bind fun t102=>(if t102=true then(if (l1.length:Int) > 20000 then(qkw.j0 k a0 l1 true a2_0 a2_1) else(if a2_0 < 1 then(qkw.j0 k a0 l1 true a2_0 a2_1) else(if a2_0 ≥ 2147483579 then(qkw.j0 k a0 l1 true a2_0 a2_1) else(if a2_1 < 0 then(qkw.j0 k a0 l1 true a2_0 a2_1) else(qkw.j0 k a0 l1 (decide (a2_1 ≥ 1073741789)) a2_0 a2_1))))) else(qkw.j0 k a0 l1 true a2_0 a2_1))
def qkw.T3:Bool × List (List Nat × List Nat):=(true,[([],[]),([0],[0]),([1],[1]),([],[]),([3],[3]),([],[]),([],[]),([6],[6]),([],[]),([7,8,2],[7,8]),([5,9,9],[5,9]),([4,10],[4,10]),([11],[11]),([2,12],[2,12]),([13,10,0,1,2,3,4,5,6,7,8,9,10,11,12,13],[13])])
def qkw.B3:List Nat:=[0,1,3,0,8,0,0,64,0,455,999,2047,4095,8191,16383]
theorem qkw.tab3:rtab .any (opsOf Try.f97 3)=qkw.T3:=by kernel_rfl
theorem qkw.bits3:waitsOk qkw.T3.2 qkw.B3=true:=by kernel_rfl
theorem qkw.calls (k:Nat) (a0:Int) (A1:Option Addr) (c1:Nat) (l1:List Int) (a2_0:Int) (a2_1:Int) (r:Bool) (w:World) (hr1:Kd.C (Kd.int .u8) w A1 l1.length l1) (hc1:l1.length≤c1) (h:qkw.f k a0 l1 a2_0 a2_1=some r) :
  Calls Try.prog 97 #[.int .i64 a0,.slice A1 l1.length c1,.agg #[.int .i64 a2_0,.int .i64 a2_1]] w fun e w'=>e=.returned (.bool r)∧Below w.heap.size w w':=by
 have hu59:=Try.underlying59
 have HR1:=U.mk hr1
 have HC1:=U.mk hc1
 clear hr1 hc1
 have HB:=U.mk (Below.refl w.heap.size w)
 unfold qkw.f at h
 have H:=h
 clear h
 have HC4:=U.mk H
 clear H
 go_enter Try.func97,Try.ntmps97
 go_upto_region 1 with (first|((with_reducible refine gate_dst (N:=5) rfl ?_);(try (refine gate_guard (by rfl) ?_;dsimp only));refine box_event ?hg (N:=5) ?hd (cs:=#[.int .i64 a2_0,.int .i64 a2_1]) (t:=59) ?hr ?_;(case hd=>rfl);(case hg=>rfl);(case hr=>first|(go_simp;done)|(go_simp;rfl));intro gb101 hg w5 hbox hb;have BK101:=U.mk (hbox);have GW101:=U.mk ((by rw[hg];exact(zj (by solve_by_elim only[HB.out,G,J,qq])):w.heap.size≤gb101));have GE101:=U.mk ((by rw[hg];exact(zj (by solve_by_elim only[HB.out,G,J,qq])):w.heap.size≤gb101));replace HB:=U.mk (zz (by solve_by_elim only[HB.out,G,J,qq]) hb);clear hb hbox hg))
 (try simp only[Act.put,jq5,jq6,jq7])
 go_cut [34] (fun v34 wc=>∃ (kq:Nat) (x34_3:Bool),v34=.bool x34_3∧U (qkw.j0 kq a0 l1 x34_3 a2_0 a2_1=some r)∧U (kq≤k)∧U (wc.heap[gb101]? = some (.cells #[.int .i64 a2_0,.int .i64 a2_1] 59 (0,0)))∧U (Below w.heap.size w wc))
 case first =>
  have H:=HC4.out
  clear HC4
  replace H:=jq8.mp H
  obtain⟨t102,A60,H⟩:=H
  try dsimp only at H
  have A6:=U.mk A60
  clear A60
  by_cases c7:t102=true
  ·subst c7
   have H1:(if (l1.length:Int) > 20000 then(qkw.j0 k a0 l1 true a2_0 a2_1) else(if a2_0 < 1 then(qkw.j0 k a0 l1 true a2_0 a2_1) else(if a2_0 ≥ 2147483579 then(qkw.j0 k a0 l1 true a2_0 a2_1) else(if a2_1 < 0 then(qkw.j0 k a0 l1 true a2_0 a2_1) else(qkw.j0 k a0 l1 (decide (a2_1 ≥ 1073741789)) a2_0 a2_1)))))=some r:=by rw[if_pos rfl] at H;exact H
   clear H
   have H:=H1
   clear H1
   by_cases c8:(l1.length:Int) > 20000
   ·rw[if_pos c8] at H
    have c8b0:decide (20000 < (l1.length:Int))=true:=decide_eq_true c8
    have c8b1:decide (20000 < l1.length)=true:=decide_eq_true (by omega)
    clear c8
    (first|rw[c8b0]|(simp only[i64_w,i32_w];rw[c8b0])|skip)
    have H':=U.mk H
    clear H
    go_wp2_with (first|((with_reducible refine jw (f:=125) rfl ?_);refine goesL_ (some 8) rfl rfl Try.func125 (by kernel_rfl) rfl #[.int .i64 a0] rfl (by(try simp only[jq0,jq1,jq2]);first|done|rfl|(simp only[jq3,jq4];rfl)) ?_;(with_reducible refine(zqv.calls k a0 true _ A6.out).mono ?_);rintro e w' ⟨rfl,⟨nd,rfl⟩⟩;refine⟨_,rfl,?_⟩))
    go_meet
    case rel=>exact⟨_,(true),(by first|rfl|(simp;done)|(simp[*];done)),H',⟨by first|omega|exact Nat.le_refl _⟩,⟨by(with_reducible repeat(first|refine qw ?_ _|refine qx ?_|refine qv ?_ _));exact BK101.out⟩,⟨by repeat(first|(with_reducible first|exact HB.out|apply G|apply J|apply qq|refine qk ?_ GE101.out)|exact HB.out)⟩⟩
   ·rw[if_neg c8] at H
    have c8b0:decide (20000 < (l1.length:Int))=false:=decide_eq_false c8
    have c8b1:decide (20000 < l1.length)=false:=decide_eq_false (by omega)
    clear c8
    (first|rw[c8b0]|(simp only[i64_w,i32_w];rw[c8b0])|skip)
    by_cases c9:a2_0 < 1
    ·rw[if_pos c9] at H
     have c9b0:decide (a2_0 < 1)=true:=decide_eq_true c9
     clear c9
     have H':=U.mk H
     clear H
     go_wp2_with (first|((with_reducible refine jw (f:=125) rfl ?_);refine goesL_ (some 8) rfl rfl Try.func125 (by kernel_rfl) rfl #[.int .i64 a0] rfl (by(try simp only[jq0,jq1,jq2]);first|done|rfl|(simp only[jq3,jq4];rfl)) ?_;(with_reducible refine(zqv.calls k a0 true _ A6.out).mono ?_);rintro e w' ⟨rfl,⟨nd,rfl⟩⟩;refine⟨_,rfl,?_⟩;have hcz10_0:w5.cell? ⟨gb101,0,none⟩ = some (.int .i64 a2_0):=(qj BK101.out 0).trans rfl;have hcz10_1:w5.cell? ⟨gb101,1,none⟩ = some (.int .i64 a2_1):=(qj BK101.out 1).trans rfl;have hfz10_0:=qz BK101.out 0;have hfz10_1:=qz BK101.out 1))
     go_meet
     case rel=>exact⟨_,(true),(by first|rfl|(simp;done)|(simp[*];done)),H',⟨by first|omega|exact Nat.le_refl _⟩,⟨by(with_reducible repeat(first|refine qw ?_ _|refine qx ?_|refine qv ?_ _));exact BK101.out⟩,⟨by repeat(first|(with_reducible first|exact HB.out|apply G|apply J|apply qq|refine qk ?_ GE101.out)|exact HB.out)⟩⟩
    ·rw[if_neg c9] at H
     have c9b0:decide (a2_0 < 1)=false:=decide_eq_false c9
     clear c9
     by_cases c11:a2_0 ≥ 2147483579
     ·rw[if_pos c11] at H
      have c11b0:decide (2147483579≤a2_0)=true:=decide_eq_true c11
      clear c11
      have H':=U.mk H
      clear H
      go_wp2_with (first|((with_reducible refine jw (f:=125) rfl ?_);refine goesL_ (some 8) rfl rfl Try.func125 (by kernel_rfl) rfl #[.int .i64 a0] rfl (by(try simp only[jq0,jq1,jq2]);first|done|rfl|(simp only[jq3,jq4];rfl)) ?_;(with_reducible refine(zqv.calls k a0 true _ A6.out).mono ?_);rintro e w' ⟨rfl,⟨nd,rfl⟩⟩;refine⟨_,rfl,?_⟩;have hcz12_0:w5.cell? ⟨gb101,0,none⟩ = some (.int .i64 a2_0):=(qj BK101.out 0).trans rfl;have hcz12_1:w5.cell? ⟨gb101,1,none⟩ = some (.int .i64 a2_1):=(qj BK101.out 1).trans rfl;have hfz12_0:=qz BK101.out 0;have hfz12_1:=qz BK101.out 1))
      go_meet
      case rel=>exact⟨_,(true),(by first|rfl|(simp;done)|(simp[*];done)),H',⟨by first|omega|exact Nat.le_refl _⟩,⟨by(with_reducible repeat(first|refine qw ?_ _|refine qx ?_|refine qv ?_ _));exact BK101.out⟩,⟨by repeat(first|(with_reducible first|exact HB.out|apply G|apply J|apply qq|refine qk ?_ GE101.out)|exact HB.out)⟩⟩
     ·rw[if_neg c11] at H
      have c11b0:decide (2147483579≤a2_0)=false:=decide_eq_false c11
      clear c11
      by_cases c13:a2_1 < 0
      ·rw[if_pos c13] at H
       have c13b0:decide (a2_1 < 0)=true:=decide_eq_true c13
       clear c13
       have H':=U.mk H
       clear H
       go_wp2_with (first|((with_reducible refine jw (f:=125) rfl ?_);refine goesL_ (some 8) rfl rfl Try.func125 (by kernel_rfl) rfl #[.int .i64 a0] rfl (by(try simp only[jq0,jq1,jq2]);first|done|rfl|(simp only[jq3,jq4];rfl)) ?_;(with_reducible refine(zqv.calls k a0 true _ A6.out).mono ?_);rintro e w' ⟨rfl,⟨nd,rfl⟩⟩;refine⟨_,rfl,?_⟩;have hcz14_0:w5.cell? ⟨gb101,0,none⟩ = some (.int .i64 a2_0):=(qj BK101.out 0).trans rfl;have hcz14_1:w5.cell? ⟨gb101,1,none⟩ = some (.int .i64 a2_1):=(qj BK101.out 1).trans rfl;have hfz14_0:=qz BK101.out 0;have hfz14_1:=qz BK101.out 1))
       go_meet
       case rel=>exact⟨_,(true),(by first|rfl|(simp;done)|(simp[*];done)),H',⟨by first|omega|exact Nat.le_refl _⟩,⟨by(with_reducible repeat(first|refine qw ?_ _|refine qx ?_|refine qv ?_ _));exact BK101.out⟩,⟨by repeat(first|(with_reducible first|exact HB.out|apply G|apply J|apply qq|refine qk ?_ GE101.out)|exact HB.out)⟩⟩
      ·rw[if_neg c13] at H
       have c13b0:decide (a2_1 < 0)=false:=decide_eq_false c13
       clear c13
       have H':=U.mk H
       clear H
       go_wp2_with (first|((with_reducible refine jw (f:=125) rfl ?_);refine goesL_ (some 8) rfl rfl Try.func125 (by kernel_rfl) rfl #[.int .i64 a0] rfl (by(try simp only[jq0,jq1,jq2]);first|done|rfl|(simp only[jq3,jq4];rfl)) ?_;(with_reducible refine(zqv.calls k a0 true _ A6.out).mono ?_);rintro e w' ⟨rfl,⟨nd,rfl⟩⟩;refine⟨_,rfl,?_⟩;have hcz15_0:w5.cell? ⟨gb101,0,none⟩ = some (.int .i64 a2_0):=(qj BK101.out 0).trans rfl;have hcz15_1:w5.cell? ⟨gb101,1,none⟩ = some (.int .i64 a2_1):=(qj BK101.out 1).trans rfl;have hfz15_0:=qz BK101.out 0;have hfz15_1:=qz BK101.out 1))
       go_meet
       case rel=>exact⟨_,(decide (a2_1 ≥ 1073741789)),(by first|rfl|(simp;done)|(simp[*];done)),H',⟨by first|omega|exact Nat.le_refl _⟩,⟨by(with_reducible repeat(first|refine qw ?_ _|refine qx ?_|refine qv ?_ _));exact BK101.out⟩,⟨by repeat(first|(with_reducible first|exact HB.out|apply G|apply J|apply qq|refine qk ?_ GE101.out)|exact HB.out)⟩⟩
  ·replace c7:=jq9.mpr c7
   subst c7
   have H1:(qkw.j0 k a0 l1 true a2_0 a2_1)=some r:=by rw[if_neg (show ¬ (false=true) by decide)] at H;exact H
   clear H
   have H:=H1
   clear H1
   have H':=U.mk H
   clear H
   go_wp2_with (first|((with_reducible refine jw (f:=125) rfl ?_);refine goesL_ (some 8) rfl rfl Try.func125 (by kernel_rfl) rfl #[.int .i64 a0] rfl (by(try simp only[jq0,jq1,jq2]);first|done|rfl|(simp only[jq3,jq4];rfl)) ?_;(with_reducible refine(zqv.calls k a0 false _ A6.out).mono ?_);rintro e w' ⟨rfl,⟨nd,rfl⟩⟩;refine⟨_,rfl,?_⟩))
   go_meet
   case rel=>exact⟨_,(true),(by first|rfl|(simp;done)|(simp[*];done)),H',⟨by first|omega|exact Nat.le_refl _⟩,⟨by(with_reducible repeat(first|refine qw ?_ _|refine qx ?_|refine qv ?_ _));exact BK101.out⟩,⟨by repeat(first|(with_reducible first|exact HB.out|apply G|apply J|apply qq|refine qk ?_ GE101.out)|exact HB.out)⟩⟩
 case rest =>
  clear HC4
  try clear c1
  try clear p2
  try clear c7
  try clear c8
  try clear c8b0
  try clear c8b1
  try clear c9
  try clear c9b0
  try clear c11
  try clear c11b0
  try clear c12
  try clear c13
  try clear c13b0
  try clear hcz10_0
  try clear hcz10_1
  try clear hcz12_0
  try clear hcz12_1
  try clear hcz14_0
  try clear hcz14_1
  try clear hcz15_0
  try clear hcz15_1
  try clear hfz10_0
  try clear hfz10_1
  try clear hfz12_0
  try clear hfz12_1
  try clear hfz14_0
  try clear hfz14_1
  try clear hfz15_0
  try clear hfz15_1
  obtain⟨kq,x34_3,rfl,HA,HJ3,BK101,HB⟩:=hcut
  cases kq with
  | zero=>exact absurd HA.out (by simp[qkw.j0])
  | succ kj3 =>
   have H:=HA.out
   clear HA
   simp only[qkw.j0] at H
   by_cases c16:x34_3=true
   ·subst c16
    have H1:(some false)=some r:=by rw[if_pos rfl] at H;exact H
    clear H
    have H:=H1
    clear H1
    obtain rfl:=Option.some.inj H
    go_wp2
    go_ret
    exact⟨by first|rfl|(simp[*,jv,jk] <;> rfl),by repeat(first|(with_reducible first|exact HB.out|apply G|apply J|apply qq|refine qk ?_ GE101.out)|exact HB.out)⟩
   ·replace c16:=jq9.mpr c16
    subst c16
    have H1:((zqk.f kj3 4 a2_1 2147483579).bind fun t103=>((qxx.f kj3 a2_0 l1).bind fun t104=>((zqk.f kj3 a0 t104 2147483579).bind fun t105=>(some (t103 == (Int.tmod (wrap64 (a2_0 * t105)) 2147483579))))))=some r:=by rw[if_neg (show ¬ (false=true) by decide)] at H;exact H
    clear H
    have H:=H1
    clear H1
    replace H:=jq8.mp H
    obtain⟨t103,A170,H⟩:=H
    try dsimp only at H
    have A17:=U.mk A170
    clear A170
    replace H:=jq8.mp H
    obtain⟨t104,A180,H⟩:=H
    try dsimp only at H
    have A18:=U.mk A180
    clear A180
    replace H:=jq8.mp H
    obtain⟨t105,A190,H⟩:=H
    try dsimp only at H
    have A19:=U.mk A190
    clear A190
    obtain rfl:=Option.some.inj H
    try go_wp2
    replace BK101:=U.mk (qx BK101.out)
    replace HB:=U.mk (qq HB.out)
    refine start_ (n:=15) (S:=fun w'=>w'.cell? ⟨gb101,0,none⟩ = some (.int .i64 a2_0)∧w'.cell? ⟨gb101,1,none⟩ = some (.int .i64 a2_1)) (ds:=[]) #[Y,Y,Y,Y,Y,Y,Y,Y,Y,Y,Y,Y,Y,Y,Y] (by kernel_rfl) rfl rfl ⟨(qj BK101.out 0).trans rfl,(qj BK101.out 1).trans rfl⟩ (fun hHeld=>?_);refine with_tabW qkw.tab3 qkw.bits3 (fun HT_ HW_=>?_)
    generalize wc.drew=w20 at BK101 HB hHeld ⊢
    refine pure_ (i:=0) (N:=some 35) (v:=?_) (a':=?_) #[Z,Y,Y,Y,Y,Y,Y,Y,Y,Y,Y,Y,Y,Y,Y] rfl rfl (any_of HT_.out (by kernel_rfl)) (fun _ _ _ h=>h) (Or.inl ⟨by rfl,?_⟩) ?_ ?_
    rotate_left
    ·intro w'
     go_simp
     with_reducible rfl
    rotate_left
    ·simp only[Act.put,jq5,jq6,jq7,i64_w,i32_w]
     rfl
    refine pure_ (i:=3) (N:=some 38) (v:=?_) (a':=?_) #[Z,Y,Y,Z,Y,Y,Y,Y,Y,Y,Y,Y,Y,Y,Y] rfl rfl (any_of HT_.out (by kernel_rfl)) (fun _ _ _ h=>h) (Or.inl ⟨by rfl,?_⟩) ?_ ?_
    rotate_left
    ·intro w'
     go_simp
     with_reducible rfl
    rotate_left
    ·simp only[Act.put,jq5,jq6,jq7,i64_w,i32_w]
     rfl
    refine pure_ (i:=5) (N:=some 40) (v:=?_) (a':=?_) #[Z,Y,Y,Z,Y,Z,Y,Y,Y,Y,Y,Y,Y,Y,Y] rfl rfl (any_of HT_.out (by kernel_rfl)) (fun _ _ _ h=>h) (Or.inl ⟨by rfl,?_⟩) ?_ ?_
    rotate_left
    ·intro w'
     go_simp
     with_reducible rfl
    rotate_left
    ·simp only[Act.put,jq5,jq6,jq7,i64_w,i32_w]
     rfl
    refine pure_ (i:=6) (N:=some 41) (v:=?_) (a':=?_) #[Z,Y,Y,Z,Y,Z,Z,Y,Y,Y,Y,Y,Y,Y,Y] rfl rfl (any_of HT_.out (by kernel_rfl)) (fun _ _ _ h=>h) (Or.inl ⟨by rfl,?_⟩) ?_ ?_
    rotate_left
    ·intro w'
     go_simp
     with_reducible rfl
    rotate_left
    ·simp only[Act.put,jq5,jq6,jq7,i64_w,i32_w]
     rfl
    refine pure_ (i:=8) (N:=some 43) (v:=?_) (a':=?_) #[Z,Y,Y,Z,Y,Z,Z,Y,Z,Y,Y,Y,Y,Y,Y] rfl rfl (any_of HT_.out (by kernel_rfl)) (fun _ _ _ h=>h) (Or.inl ⟨by rfl,?_⟩) ?_ ?_
    rotate_left
    ·intro w'
     go_simp
     with_reducible rfl
    rotate_left
    ·simp only[Act.put,jq5,jq6,jq7,i64_w,i32_w]
     rfl
    refine take_ (i:=1) (N:=some 36) (v:=?_) (a':=?_) #[Z,Z,Y,Z,Y,Z,Z,Y,Z,Y,Y,Y,Y,Y,Y] rfl rfl (take_ofW HT_.out HW_.out (by kernel_rfl)) (fun _ _ _ h=>h) (Or.inl ⟨by rfl,?_⟩) hHeld ?_ ?_
    rotate_left
    ·rintro w' ⟨s0,s1⟩
     go_simp
     with_reducible rfl
    rotate_left
    ·simp only[Act.put,jq5,jq6,jq7,i64_w,i32_w]
     rfl
    refine take_ (i:=4) (N:=some 39) (v:=?_) (a':=?_) #[Z,Z,Y,Z,Z,Z,Z,Y,Z,Y,Y,Y,Y,Y,Y] rfl rfl (take_ofW HT_.out HW_.out (by kernel_rfl)) (fun _ _ _ h=>h) (Or.inl ⟨by rfl,?_⟩) hHeld ?_ ?_
    rotate_left
    ·rintro w' ⟨s0,s1⟩
     go_simp
     with_reducible rfl
    rotate_left
    ·simp only[Act.put,jq5,jq6,jq7,i64_w,i32_w]
     rfl
    refine take_ (i:=7) (N:=some 42) (v:=?_) (a':=?_) #[Z,Z,Y,Z,Z,Z,Z,Z,Z,Y,Y,Y,Y,Y,Y] rfl rfl (take_ofW HT_.out HW_.out (by kernel_rfl)) (fun _ _ _ h=>h) (Or.inl ⟨by rfl,?_⟩) hHeld ?_ ?_
    rotate_left
    ·rintro w' ⟨s0,s1⟩
     go_simp
     with_reducible rfl
    rotate_left
    ·simp only[Act.put,jq5,jq6,jq7,i64_w,i32_w]
     rfl
    refine one_ (i:=2) (N:=some 37) #[Z,Z,Z,Z,Z,Z,Z,Z,Z,Y,Y,Y,Y,Y,Y] rfl rfl (one_of HT_.out (by kernel_rfl)) (by decide) (fun K hK=>?_)
    refine goes_ Try.func110 (by kernel_rfl) rfl #[.int .i64 4,.int .i64 a2_1,.int .i64 2147483579] (by rfl) rfl rfl (by(try simp only[jq0,jq1,jq2]);first|done|rfl|(simp only[jq3,jq4];rfl)) ?_
    with_reducible refine(zqk.calls kj3 4 a2_1 2147483579 t103 _ A17.out).mono ?_
    rintro e w' ⟨rfl,⟨nd,rfl⟩⟩
    refine⟨_,rfl,?_⟩
    refine hK.out _ _ ⟨(qj BK101.out 0).trans rfl,(qj BK101.out 1).trans rfl⟩ (fun hHeld=>?_)
    clear hK K
    refine norm_ (a':=?_) ?_ ?_
    rotate_left
    ·show Act.put _ (some 37) _=_
     simp only[Act.put,jq5,jq6,jq7,i64_w,i32_w]
     rfl
    refine one_ (i:=9) (N:=some 44) #[Z,Z,Z,Z,Z,Z,Z,Z,Z,Z,Y,Y,Y,Y,Y] rfl rfl (one_of HT_.out (by kernel_rfl)) (by decide) (fun K hK=>?_)
    refine goes_ Try.func126 (by kernel_rfl) rfl #[.int .i64 a2_0,.slice A1 l1.length c1] (by rfl) rfl rfl (by(try simp only[jq0,jq1,jq2]);first|done|rfl|(simp only[jq3,jq4];rfl)) ?_
    with_reducible refine(qxx.calls kj3 a2_0 _ _ l1 t104 _ ?side1 ?side2 A18.out).mono ?_
    (case side1=>repeat(first|exact(Kd.C_below HR1.out (by solve_by_elim (maxDepth:=20) only[HB.out,G,J,qq,qk,GE101.out]))|(with_reducible refine Kd.C_alloc ?_ _)|(with_reducible refine Kd.C_drewN ?_ _)|(with_reducible refine Kd.C_drew ?_)))
    (case side2=>exact HC1.out)
    rintro e w21 ⟨rfl,hb⟩
    refine⟨_,rfl,?_⟩
    replace BK101:=U.mk (vx (g:=gb101) (o:=.cells #[.int .i64 a2_0,.int .i64 a2_1] 59 (0,0)) (by solve_by_elim only[BK101.out,qw,qx,qv]) hb)
    replace HB:=U.mk (zz (by solve_by_elim (maxDepth:=20) only[HB.out,G,J,qq,qk,GE101.out]) hb)
    (try clear hb)
    (try clear hb2)
    (try clear hk)
    (try clear hi)
    refine hK.out _ _ ⟨(qj BK101.out 0).trans rfl,(qj BK101.out 1).trans rfl⟩ (fun hHeld=>?_)
    clear hK K
    refine norm_ (a':=?_) ?_ ?_
    rotate_left
    ·show Act.put _ (some 44) _=_
     simp only[Act.put,jq5,jq6,jq7,i64_w,i32_w]
     rfl
    refine one_ (i:=10) (N:=some 45) #[Z,Z,Z,Z,Z,Z,Z,Z,Z,Z,Z,Y,Y,Y,Y] rfl rfl (one_of HT_.out (by kernel_rfl)) (by decide) (fun K hK=>?_)
    refine goes_ Try.func110 (by kernel_rfl) rfl #[.int .i64 a0,.int .i64 t104,.int .i64 2147483579] (by rfl) rfl rfl (by(try simp only[jq0,jq1,jq2]);first|done|rfl|(simp only[jq3,jq4];rfl)) ?_
    with_reducible refine(zqk.calls kj3 a0 t104 2147483579 t105 _ A19.out).mono ?_
    rintro e w' ⟨rfl,⟨nd,rfl⟩⟩
    refine⟨_,rfl,?_⟩
    refine hK.out _ _ ⟨(qj BK101.out 0).trans rfl,(qj BK101.out 1).trans rfl⟩ (fun hHeld=>?_)
    clear hK K
    refine norm_ (a':=?_) ?_ ?_
    rotate_left
    ·show Act.put _ (some 45) _=_
     simp only[Act.put,jq5,jq6,jq7,i64_w,i32_w]
     rfl
    refine pure_ (i:=11) (N:=some 46) (v:=?_) (a':=?_) #[Z,Z,Z,Z,Z,Z,Z,Z,Z,Z,Z,Z,Y,Y,Y] rfl rfl (any_of HT_.out (by kernel_rfl)) (fun _ _ _ h=>h) (Or.inl ⟨by rfl,?_⟩) ?_ ?_
    rotate_left
    ·intro w'
     go_simp
     with_reducible rfl
    rotate_left
    ·simp only[Act.put,jq5,jq6,jq7,i64_w,i32_w]
     rfl
    refine pure_ (i:=12) (N:=some 47) (v:=?_) (a':=?_) #[Z,Z,Z,Z,Z,Z,Z,Z,Z,Z,Z,Z,Z,Y,Y] rfl rfl (any_of HT_.out (by kernel_rfl)) (fun _ _ _ h=>h) (Or.inl ⟨by rfl,?_⟩) ?_ ?_
    rotate_left
    ·intro w'
     go_simp
     with_reducible rfl
    rotate_left
    ·simp only[Act.put,jq5,jq6,jq7,i64_w,i32_w]
     rfl
    refine pure_ (i:=13) (N:=some 48) (v:=?_) (a':=?_) #[Z,Z,Z,Z,Z,Z,Z,Z,Z,Z,Z,Z,Z,Z,Y] rfl rfl (any_of HT_.out (by kernel_rfl)) (fun _ _ _ h=>h) (Or.inl ⟨by rfl,?_⟩) ?_ ?_
    rotate_left
    ·intro w'
     go_simp
     with_reducible rfl
    rotate_left
    ·simp only[Act.put,jq5,jq6,jq7,i64_w,i32_w]
     rfl
    refine pure_ (i:=14) (N:=some 6) (v:=?_) (a':=?_) #[Z,Z,Z,Z,Z,Z,Z,Z,Z,Z,Z,Z,Z,Z,Z] rfl rfl (any_of HT_.out (by kernel_rfl)) (fun _ _ _ h=>h) (Or.inl ⟨by rfl,?_⟩) ?_ ?_
    rotate_left
    ·intro w'
     go_simp
     with_reducible rfl
    rotate_left
    ·simp only[Act.put,jq5,jq6,jq7,i64_w,i32_w]
     rfl
    refine done_ (done_of HT_.out (by kernel_rfl)) ?_
    try go_wp2
    go_ret
    exact⟨by first|rfl|(simp[*,jv,jk] <;> rfl),by repeat(first|(with_reducible first|exact HB.out|apply G|apply J|apply qq|refine qk ?_ GE101.out)|exact HB.out)⟩
end Go.Proofs.Ytipdkendfcopiaa.Pr
namespace Go.Proofs.Ytipdkendfcopiaa.Pr
open Go.RowKit Go.Proofs.YtipdkendfcopiaaW.PrintWords Go.Proofs.YtipdkendfcopiaaW.PrintLast Go.Proofs.YtipdkendfcopiaaW.PrintMore
attribute [local go_sem] max2_int min2_int max_two min_two max_three min_three max_four min_four
set_option linter.unusedVariables false
set_option linter.unusedSimpArgs false
def qxk.f (k:Nat) (a0_0:Int) (l0_1:List Int) (a0_2:Int) (a0_3:Int):Option (List Int):=(qxv.f k a0_0).bind fun t102=>(if t102.length + l0_1.length < 140737488355328 then(some (t102 ++ l0_1)) else(none))
theorem qxk.calls (k:Nat) (a0_0:Int) (A0_1:Option Addr) (c0_1:Nat) (l0_1:List Int) (a0_2:Int) (a0_3:Int) (r:List Int) (w:World) (hr0_1:Kd.C (Kd.int .u8) w A0_1 l0_1.length l0_1) (hc0_1:l0_1.length≤c0_1) (h:qxk.f k a0_0 l0_1 a0_2 a0_3=some r) :
  Calls Try.prog 98 #[.agg #[.int .i64 a0_0,.slice A0_1 l0_1.length c0_1,.int .i64 a0_2,.int .i64 a0_3]] w fun e w'=>∃ v0_:Value,e=.returned (v0_)∧Kd.R (Kd.int .u8) 5 w' w.heap.size (fun _=>True) v0_ r∧Below w.heap.size w w':=by
 have hu61:=Try.underlying61
 have HR0_1:=U.mk hr0_1
 have HC0_1:=U.mk hc0_1
 clear hr0_1 hc0_1
 have HB:=U.mk (Below.refl w.heap.size w)
 unfold qxk.f at h
 have H:=h
 clear h
 replace H:=jq8.mp H
 obtain⟨t102,A20,H⟩:=H
 try dsimp only at H
 have A2:=U.mk A20
 clear A20
 by_cases c3:t102.length + l0_1.length < 140737488355328
 ·rw[if_pos c3] at H
  have LMc3:=U.mk c3
  clear c3
  obtain⟨y105,hy105⟩ : ∃ y_:List Int,y_=(t102 ++ l0_1):=⟨_,rfl⟩
  replace H:(some y105)=some r:=by first|(rw[hy105];with_reducible exact H)|(have H2_:=(Option.bind_some _ _).symm.trans H;rw[hy105];with_reducible exact H2_)|(have H2_:=(Option.bind_some _ _).symm.trans H;with_reducible exact H2_)|with_reducible exact H|(rw[hy105];exact H)|exact H
  have Ny105:=U.mk hy105
  clear hy105
  obtain rfl:=Option.some.inj H
  go_enter Try.func98,Try.ntmps98
  try go_wp2_with (first|((with_reducible refine gate_dst (N:=1) rfl ?_);refine box_event ?hg (N:=1) ?hd (cs:=#[.int .i64 a0_0,.slice A0_1 l0_1.length c0_1,.int .i64 a0_2,.int .i64 a0_3]) (t:=61) ?hr ?_;(case hd=>rfl);(case hg=>rfl);(case hr=>first|(go_simp;done)|(go_simp;rfl));intro gb101 hg w4 hbox hb;have BK101:=U.mk (hbox);have GW101:=U.mk ((by rw[hg];exact(zj (by solve_by_elim only[HB.out,G,J,qq])):w.heap.size≤gb101));have GE101:=U.mk ((by rw[hg];exact(zj (by solve_by_elim only[HB.out,G,J,qq])):w.heap.size≤gb101));replace HB:=U.mk (zz (by solve_by_elim only[HB.out,G,J,qq]) hb);clear hb hbox hg))
  replace BK101:=U.mk (qx BK101.out)
  replace HB:=U.mk (qq HB.out)
  refine start_ (n:=7) (S:=fun w'=>w'.cell? ⟨gb101,0,none⟩ = some (.int .i64 a0_0)∧w'.cell? ⟨gb101,1,none⟩ = some (.slice A0_1 l0_1.length c0_1)∧w'.cell? ⟨gb101,2,none⟩ = some (.int .i64 a0_2)∧w'.cell? ⟨gb101,3,none⟩ = some (.int .i64 a0_3)) (ds:=[]) #[Y,Y,Y,Y,Y,Y,Y] (by kernel_rfl) rfl rfl ⟨(qj BK101.out 0).trans rfl,(qj BK101.out 1).trans rfl,(qj BK101.out 2).trans rfl,(qj BK101.out 3).trans rfl⟩ (fun hHeld=>?_)
  generalize w4.drew=w5 at BK101 HB hHeld ⊢
  refine pure_ (i:=0) (N:=some 3) (v:=?_) (a':=?_) #[Z,Y,Y,Y,Y,Y,Y] rfl rfl (by kernel_rfl) (fun _ _ _ h=>h) (Or.inl ⟨by rfl,?_⟩) ?_ ?_
  rotate_left
  ·intro w'
   go_simp
   with_reducible rfl
  rotate_left
  ·simp only[Act.put,jq5,jq6,jq7,i64_w,i32_w]
   rfl
  refine pure_ (i:=3) (N:=some 6) (v:=?_) (a':=?_) #[Z,Y,Y,Z,Y,Y,Y] rfl rfl (by kernel_rfl) (fun _ _ _ h=>h) (Or.inl ⟨by rfl,?_⟩) ?_ ?_
  rotate_left
  ·intro w'
   go_simp
   with_reducible rfl
  rotate_left
  ·simp only[Act.put,jq5,jq6,jq7,i64_w,i32_w]
   rfl
  refine take_ (i:=1) (N:=some 4) (v:=?_) (a':=?_) #[Z,Z,Y,Z,Y,Y,Y] rfl rfl (by kernel_rfl) (fun _ _ _ h=>h) (Or.inl ⟨by rfl,?_⟩) hHeld ?_ ?_
  rotate_left
  ·rintro w' ⟨s0,s1,s2,s3⟩
   go_simp
   with_reducible rfl
  rotate_left
  ·simp only[Act.put,jq5,jq6,jq7,i64_w,i32_w]
   rfl
  refine take_ (i:=4) (N:=some 7) (v:=?_) (a':=?_) #[Z,Z,Y,Z,Z,Y,Y] rfl rfl (by kernel_rfl) (fun _ _ _ h=>h) (Or.inl ⟨by rfl,?_⟩) hHeld ?_ ?_
  rotate_left
  ·rintro w' ⟨s0,s1,s2,s3⟩
   go_simp
   with_reducible rfl
  rotate_left
  ·simp only[Act.put,jq5,jq6,jq7,i64_w,i32_w]
   rfl
  refine one_ (i:=2) (N:=some 5) #[Z,Z,Z,Z,Z,Y,Y] rfl rfl (by kernel_rfl) (by decide) (fun K hK=>?_)
  refine goes_ Try.func115 (by kernel_rfl) rfl #[.int .i64 a0_0] (by rfl) rfl rfl (by(try simp only[jq0,jq1,jq2]);first|done|rfl|(simp only[jq3,jq4];rfl)) ?_
  with_reducible refine(qxv.calls k a0_0 t102 _ A2.out).mono ?_
  rintro e w6 ⟨v103,rfl,ho0,hb⟩
  refine⟨_,rfl,?_⟩
  have HO104:=U.mk (Kd.R_lower ho0 (zj (by solve_by_elim (maxDepth:=20) only[HB.out,G,J,qq,qk,GE101.out])))
  replace BK101:=U.mk (vx (g:=gb101) (o:=.cells #[.int .i64 a0_0,.slice A0_1 l0_1.length c0_1,.int .i64 a0_2,.int .i64 a0_3] 61 (0,0)) (by solve_by_elim only[BK101.out,qw,qx,qv]) hb)
  replace HB:=U.mk (zz (by solve_by_elim (maxDepth:=20) only[HB.out,G,J,qq,qk,GE101.out]) hb)
  (try clear hb)
  (try clear hb2)
  (try clear hk)
  (try clear hi)
  (try clear ho0)
  refine hK.out _ _ ⟨(qj BK101.out 0).trans rfl,(qj BK101.out 1).trans rfl,(qj BK101.out 2).trans rfl,(qj BK101.out 3).trans rfl⟩ (fun hHeld=>?_)
  clear hK K
  refine norm_ (a':=?_) ?_ ?_
  rotate_left
  ·show Act.put _ (some 5) _=_
   simp only[Act.put,jq5,jq6,jq7,i64_w,i32_w]
   rfl
  refine one_ (i:=5) (N:=some 8) #[Z,Z,Z,Z,Z,Z,Y] rfl rfl (by kernel_rfl) (by decide) (fun K hK=>?_)
  refine Kd.R_append_rows_step (Kd.int .u8) (w0:=w) w.heap.size (by rfl) (.tmp 5) (.tmp 7) 22 5 (.int .u8 0) 1 rfl Try.underlying22 info5 rfl (by decide) (by omega) v103 t102 l0_1 _ _ _ (fun _=>True) (fun _=>False) rfl rfl ?aO ?aR (fun _ _ h=>h) (fun _ h=>h.elim) ?aF ?aB ?aS ?aL ?_
  (case aR=>repeat(first|exact(Kd.C_below HR0_1.out HB.out)|(with_reducible refine Kd.C_alloc ?_ _)|(with_reducible refine Kd.C_drewN ?_ _)|(with_reducible refine Kd.C_drew ?_)))
  (case aB=>exact(by solve_by_elim (maxDepth:=20) only[HB.out,G,J,qq,qk,GE101.out]))
  (case aF=>exact(fun _ _=>trivial))
  (case aO=>exact(by solve_by_elim only[HO104.out,Kd.zv,Kd.zk,Kd.zw]))
  (case aS=>exact(zj (by solve_by_elim (maxDepth:=20) only[HB.out,G,J,qq,qk,GE101.out])))
  (case aL=>have:=LMc3.out;omega)
  intro v106 w7 ho hb hg hat
  rw[← Ny105.out] at ho
  replace BK101:=U.mk (blk_grown (g:=gb101) (o:=.cells #[.int .i64 a0_0,.slice A0_1 l0_1.length c0_1,.int .i64 a0_2,.int .i64 a0_3] 61 (0,0)) (by solve_by_elim only[BK101.out,qw,qx,qv]) hg (Kd.R_ne HO104.out BK101.out (by decide)))
  replace HB:=U.mk (hb)
  have HO107:=U.mk (ho)
  clear HO104
  clear ho hb hg hat
  refine hK.out _ _ ⟨(qj BK101.out 0).trans rfl,(qj BK101.out 1).trans rfl,(qj BK101.out 2).trans rfl,(qj BK101.out 3).trans rfl⟩ (fun hHeld=>?_)
  clear hK K
  refine norm_ (a':=?_) ?_ ?_
  rotate_left
  ·show Act.put _ (some 8) _=_
   simp only[Act.put,jq5,jq6,jq7,i64_w,i32_w]
   rfl
  refine pure_ (i:=6) (N:=some 2) (v:=?_) (a':=?_) #[Z,Z,Z,Z,Z,Z,Z] rfl rfl (by kernel_rfl) (fun _ _ _ h=>h) (Or.inl ⟨by rfl,?_⟩) ?_ ?_
  rotate_left
  ·intro w'
   go_simp
   with_reducible rfl
  rotate_left
  ·simp only[Act.put,jq5,jq6,jq7,i64_w,i32_w]
   rfl
  refine done_ (by kernel_rfl) ?_
  try go_wp2
  go_ret
  exact⟨_,by first|rfl|(simp[*,jv,jk] <;> rfl),by(with_reducible repeat(first|apply Kd.zv|apply Kd.zk|apply Kd.zw));exact HO107.out,by repeat(first|(with_reducible first|exact HB.out|apply G|apply J|apply qq|refine qk ?_ GE101.out)|exact HB.out)⟩
 ·rw[if_neg c3] at H
  exact absurd H (by simp)
end Go.Proofs.Ytipdkendfcopiaa.Pr
namespace Go.Proofs.Ytipdkendfcopiaa.Pr
open Go.RowKit Go.Proofs.YtipdkendfcopiaaW.PrintWords Go.Proofs.YtipdkendfcopiaaW.PrintLast Go.Proofs.YtipdkendfcopiaaW.PrintMore
attribute [local go_sem] max2_int min2_int max_two min_two max_three min_three max_four min_four
set_option linter.unusedVariables false
set_option linter.unusedSimpArgs false
def qjw.f (k:Nat) (a0:Int) (a1_0:Int) (l1_1:List Int) (a1_2:Int) (a1_3:Int):Option (Bool):=if a1_0 ≥ 0 then(if a1_0≤200 then(if (l1_1.length:Int)=16 then((qxk.f k a1_0 l1_1 a1_2 a1_3).bind fun t102=>((qkw.f k a0 t102 a1_2 a1_3).bind fun t105=>(some t105))) else(some false)) else(some false)) else(some false)
def qjw.T1:Bool × List (List Nat × List Nat):=(true,[([],[]),([0],[0]),([1],[1]),([2],[2]),([3],[3]),([4,3],[3,4]),([5,3],[3,5]),([3,6],[3,6]),([7,3],[7]),([8],[8]),([9,8],[8,9]),([10,8],[8,10]),([11,8],[8,11]),([8,12],[8,12]),([13,8],[13]),([14],[14]),([14],[14]),([16,14,14],[14,16]),([14],[14]),([18,14],[14,18]),([15,17,19,17,14],[14,15,17,19]),([14,20],[14,20]),([21,20,0,1,2,3,4,5,6,7,8,9,10,11,12,13,14,15,16,17,18,19,20,21],[21])])
def qjw.B1:List Nat:=[0,1,3,7,15,31,63,127,255,511,1023,2047,4095,8191,16383,32767,32767,98303,32767,294911,1048575,2097151,4194303]
theorem qjw.tab1:rtab .any (opsOf Try.f54 1)=qjw.T1:=by kernel_rfl
theorem qjw.bits1:waitsOk qjw.T1.2 qjw.B1=true:=by kernel_rfl
theorem qjw.calls (k:Nat) (a0:Int) (a1_0:Int) (A1_1:Option Addr) (c1_1:Nat) (l1_1:List Int) (a1_2:Int) (a1_3:Int) (r:Bool) (w:World) (hr1_1:Kd.C (Kd.int .u8) w A1_1 l1_1.length l1_1) (hc1_1:l1_1.length≤c1_1) (h:qjw.f k a0 a1_0 l1_1 a1_2 a1_3=some r) :
  Calls Try.prog 54 #[.int .i64 a0,.agg #[.int .i64 a1_0,.slice A1_1 l1_1.length c1_1,.int .i64 a1_2,.int .i64 a1_3]] w fun e w'=>e=.returned (.bool r)∧Below w.heap.size w w':=by
 have hu61:=Try.underlying61
 have hu59:=Try.underlying59
 have HR1_1:=U.mk hr1_1
 have HC1_1:=U.mk hc1_1
 clear hr1_1 hc1_1
 have HB:=U.mk (Below.refl w.heap.size w)
 unfold qjw.f at h
 have H:=h
 clear h
 by_cases c3:a1_0 ≥ 0
 ·rw[if_pos c3] at H
  have c3b0:decide (0≤a1_0)=true:=decide_eq_true c3
  clear c3
  by_cases c4:a1_0≤200
  ·rw[if_pos c4] at H
   have c4b0:decide (a1_0≤200)=true:=decide_eq_true c4
   clear c4
   by_cases c5:(l1_1.length:Int)=16
   ·rw[if_pos c5] at H
    have c5b0:((l1_1.length:Int) == 16)=true:=beq_iff_eq.mpr c5
    have c5b1:((l1_1.length:Int) != 16)=false:=bne_eq_false_iff_eq.mpr c5
    clear c5
    replace H:=jq8.mp H
    obtain⟨t102,A60,H⟩:=H
    try dsimp only at H
    have A6:=U.mk A60
    clear A60
    replace H:=jq8.mp H
    obtain⟨t105,A70,H⟩:=H
    replace H:(some t105)=some r:=H
    have A7:=U.mk A70
    clear A70
    obtain rfl:=Option.some.inj H
    go_enter Try.func54,Try.ntmps54
    try go_wp2_with (first|((with_reducible refine gate_dst (N:=3) rfl ?_);(try (refine gate_guard (by rfl) ?_;dsimp only));refine box_event ?hg (N:=3) ?hd (cs:=#[.int .i64 a1_0,.slice A1_1 l1_1.length c1_1,.int .i64 a1_2,.int .i64 a1_3]) (t:=61) ?hr ?_;(case hd=>rfl);(case hg=>rfl);(case hr=>first|(go_simp;done)|(go_simp;rfl));intro gb101 hg w8 hbox hb;have BK101:=U.mk (hbox);have GW101:=U.mk ((by rw[hg];exact(zj (by solve_by_elim only[HB.out,G,J,qq])):w.heap.size≤gb101));have GE101:=U.mk ((by rw[hg];exact(zj (by solve_by_elim only[HB.out,G,J,qq])):w.heap.size≤gb101));replace HB:=U.mk (zz (by solve_by_elim only[HB.out,G,J,qq]) hb);clear hb hbox hg))
    replace BK101:=U.mk (qx BK101.out)
    replace HB:=U.mk (qq HB.out)
    refine start_ (n:=23) (S:=fun w'=>w'.cell? ⟨gb101,0,none⟩ = some (.int .i64 a1_0)∧w'.cell? ⟨gb101,1,none⟩ = some (.slice A1_1 l1_1.length c1_1)∧w'.cell? ⟨gb101,2,none⟩ = some (.int .i64 a1_2)∧w'.cell? ⟨gb101,3,none⟩ = some (.int .i64 a1_3)) (ds:=[]) #[Y,Y,Y,Y,Y,Y,Y,Y,Y,Y,Y,Y,Y,Y,Y,Y,Y,Y,Y,Y,Y,Y,Y] (by kernel_rfl) rfl rfl ⟨(qj BK101.out 0).trans rfl,(qj BK101.out 1).trans rfl,(qj BK101.out 2).trans rfl,(qj BK101.out 3).trans rfl⟩ (fun hHeld=>?_);refine with_tabW qjw.tab1 qjw.bits1 (fun HT_ HW_=>?_)
    generalize w8.drew=w9 at BK101 HB hHeld ⊢
    refine pure_ (i:=0) (N:=some 5) (v:=?_) (a':=?_) #[Z,Y,Y,Y,Y,Y,Y,Y,Y,Y,Y,Y,Y,Y,Y,Y,Y,Y,Y,Y,Y,Y,Y] rfl rfl (any_of HT_.out (by kernel_rfl)) (fun _ _ _ h=>h) (Or.inl ⟨by rfl,?_⟩) ?_ ?_
    rotate_left
    ·intro w'
     go_simp
     with_reducible rfl
    rotate_left
    ·simp only[Act.put,jq5,jq6,jq7,i64_w,i32_w]
     rfl
    refine take_ (i:=1) (N:=some 6) (v:=?_) (a':=?_) #[Z,Z,Y,Y,Y,Y,Y,Y,Y,Y,Y,Y,Y,Y,Y,Y,Y,Y,Y,Y,Y,Y,Y] rfl rfl (take_ofW HT_.out HW_.out (by kernel_rfl)) (fun _ _ _ h=>h) (Or.inl ⟨by rfl,?_⟩) hHeld ?_ ?_
    rotate_left
    ·rintro w' ⟨s0,s1,s2,s3⟩
     go_simp
     with_reducible rfl
    rotate_left
    ·simp only[Act.put,jq5,jq6,jq7,i64_w,i32_w]
     rfl
    refine pure_ (i:=2) (N:=some 7) (v:=?_) (a':=?_) #[Z,Z,Z,Y,Y,Y,Y,Y,Y,Y,Y,Y,Y,Y,Y,Y,Y,Y,Y,Y,Y,Y,Y] rfl rfl (any_of HT_.out (by kernel_rfl)) (fun _ _ _ h=>h) (Or.inl ⟨by rfl,?_⟩) ?_ ?_
    rotate_left
    ·intro w'
     go_simp
     with_reducible rfl
    rotate_left
    ·simp only[Act.put,jq5,jq6,jq7,i64_w,i32_w]
     rfl
    refine pure_ (i:=3) (N:=some 8) (v:=?_) (a':=?_) #[Z,Z,Z,Z,Y,Y,Y,Y,Y,Y,Y,Y,Y,Y,Y,Y,Y,Y,Y,Y,Y,Y,Y] rfl rfl (any_of HT_.out (by kernel_rfl)) (fun _ _ _ h=>h) (Or.inl ⟨by rfl,?_⟩) ?_ ?_
    rotate_left
    ·intro w'
     go_simp
     with_reducible rfl
    rotate_left
    ·simp only[Act.put,jq5,jq6,jq7,i64_w,i32_w]
     rfl
    refine pure_ (i:=4) (N:=some 9) (v:=?_) (a':=?_) #[Z,Z,Z,Z,Z,Y,Y,Y,Y,Y,Y,Y,Y,Y,Y,Y,Y,Y,Y,Y,Y,Y,Y] rfl rfl (any_of HT_.out (by kernel_rfl)) (fun _ _ _ h=>h) (Or.inl ⟨by rfl,?_⟩) ?_ ?_
    rotate_left
    ·intro w'
     go_simp
     with_reducible rfl
    rotate_left
    ·simp only[Act.put,jq5,jq6,jq7,i64_w,i32_w]
     rfl
    refine take_ (i:=5) (N:=some 10) (v:=?_) (a':=?_) #[Z,Z,Z,Z,Z,Z,Y,Y,Y,Y,Y,Y,Y,Y,Y,Y,Y,Y,Y,Y,Y,Y,Y] rfl rfl (take_ofW HT_.out HW_.out (by kernel_rfl)) (fun _ _ _ h=>h) (Or.inl ⟨by rfl,?_⟩) hHeld ?_ ?_
    rotate_left
    ·rintro w' ⟨s0,s1,s2,s3⟩
     go_simp
     with_reducible rfl
    rotate_left
    ·simp only[Act.put,jq5,jq6,jq7,i64_w,i32_w]
     rfl
    refine pure_ (i:=6) (N:=some 11) (v:=?_) (a':=?_) #[Z,Z,Z,Z,Z,Z,Z,Y,Y,Y,Y,Y,Y,Y,Y,Y,Y,Y,Y,Y,Y,Y,Y] rfl rfl (any_of HT_.out (by kernel_rfl)) (fun _ _ _ h=>h) (Or.inl ⟨by rfl,?_⟩) ?_ ?_
    rotate_left
    ·intro w'
     go_simp
     with_reducible rfl
    rotate_left
    ·simp only[Act.put,jq5,jq6,jq7,i64_w,i32_w]
     rfl
    refine pure_ (i:=7) (N:=some 12) (v:=?_) (a':=?_) #[Z,Z,Z,Z,Z,Z,Z,Z,Y,Y,Y,Y,Y,Y,Y,Y,Y,Y,Y,Y,Y,Y,Y] rfl rfl (any_of HT_.out (by kernel_rfl)) (fun _ _ _ h=>h) (Or.inl ⟨by rfl,?_⟩) ?_ ?_
    rotate_left
    ·intro w'
     go_simp
     with_reducible rfl
    rotate_left
    ·simp only[Act.put,jq5,jq6,jq7,i64_w,i32_w]
     rfl
    refine pure_ (i:=8) (N:=some 13) (v:=?_) (a':=?_) #[Z,Z,Z,Z,Z,Z,Z,Z,Z,Y,Y,Y,Y,Y,Y,Y,Y,Y,Y,Y,Y,Y,Y] rfl rfl (any_of HT_.out (by kernel_rfl)) (fun _ _ _ h=>h) (Or.inl ⟨by rfl,?_⟩) ?_ ?_
    rotate_left
    ·intro w'
     go_simp
     with_reducible rfl
    rotate_left
    ·simp only[Act.put,jq5,jq6,jq7,i64_w,i32_w]
     rfl
    refine pure_ (i:=9) (N:=some 14) (v:=?_) (a':=?_) #[Z,Z,Z,Z,Z,Z,Z,Z,Z,Z,Y,Y,Y,Y,Y,Y,Y,Y,Y,Y,Y,Y,Y] rfl rfl (any_of HT_.out (by kernel_rfl)) (fun _ _ _ h=>h) (Or.inl ⟨by rfl,?_⟩) ?_ ?_
    rotate_left
    ·intro w'
     go_simp
     with_reducible rfl
    rotate_left
    ·simp only[Act.put,jq5,jq6,jq7,i64_w,i32_w]
     rfl
    refine take_ (i:=10) (N:=some 15) (v:=?_) (a':=?_) #[Z,Z,Z,Z,Z,Z,Z,Z,Z,Z,Z,Y,Y,Y,Y,Y,Y,Y,Y,Y,Y,Y,Y] rfl rfl (take_ofW HT_.out HW_.out (by kernel_rfl)) (fun _ _ _ h=>h) (Or.inl ⟨by rfl,?_⟩) hHeld ?_ ?_
    rotate_left
    ·rintro w' ⟨s0,s1,s2,s3⟩
     go_simp
     with_reducible rfl
    rotate_left
    ·simp only[Act.put,jq5,jq6,jq7,i64_w,i32_w]
     rfl
    refine pure_ (i:=11) (N:=some 16) (v:=?_) (a':=?_) #[Z,Z,Z,Z,Z,Z,Z,Z,Z,Z,Z,Z,Y,Y,Y,Y,Y,Y,Y,Y,Y,Y,Y] rfl rfl (any_of HT_.out (by kernel_rfl)) (fun _ _ _ h=>h) (Or.inl ⟨by rfl,?_⟩) ?_ ?_
    rotate_left
    ·intro w'
     go_simp
     with_reducible rfl
    rotate_left
    ·simp only[Act.put,jq5,jq6,jq7,i64_w,i32_w]
     rfl
    refine pure_ (i:=12) (N:=some 17) (v:=?_) (a':=?_) #[Z,Z,Z,Z,Z,Z,Z,Z,Z,Z,Z,Z,Z,Y,Y,Y,Y,Y,Y,Y,Y,Y,Y] rfl rfl (any_of HT_.out (by kernel_rfl)) (fun _ _ _ h=>h) (Or.inl ⟨by rfl,?_⟩) ?_ ?_
    rotate_left
    ·intro w'
     go_simp
     with_reducible rfl
    rotate_left
    ·simp only[Act.put,jq5,jq6,jq7,i64_w,i32_w]
     rfl
    refine pure_ (i:=13) (N:=some 18) (v:=?_) (a':=?_) #[Z,Z,Z,Z,Z,Z,Z,Z,Z,Z,Z,Z,Z,Z,Y,Y,Y,Y,Y,Y,Y,Y,Y] rfl rfl (any_of HT_.out (by kernel_rfl)) (fun _ _ _ h=>h) (Or.inl ⟨by rfl,?_⟩) ?_ ?_
    rotate_left
    ·intro w'
     go_simp
     with_reducible rfl
    rotate_left
    ·simp only[Act.put,jq5,jq6,jq7,i64_w,i32_w]
     rfl
    refine pure_ (i:=14) (N:=some 19) (v:=?_) (a':=?_) #[Z,Z,Z,Z,Z,Z,Z,Z,Z,Z,Z,Z,Z,Z,Z,Y,Y,Y,Y,Y,Y,Y,Y] rfl rfl (any_of HT_.out (by kernel_rfl)) (fun _ _ _ h=>h) (Or.inl ⟨by rfl,?_⟩) ?_ ?_
    rotate_left
    ·intro w'
     go_simp
     with_reducible rfl
    rotate_left
    ·simp only[Act.put,jq5,jq6,jq7,i64_w,i32_w]
     rfl
    refine pure_ (i:=15) (N:=some 20) (v:=?_) (a':=?_) #[Z,Z,Z,Z,Z,Z,Z,Z,Z,Z,Z,Z,Z,Z,Z,Z,Y,Y,Y,Y,Y,Y,Y] rfl rfl (any_of HT_.out (by kernel_rfl)) (fun _ _ _ h=>h) (Or.inl ⟨by rfl,?_⟩) ?_ ?_
    rotate_left
    ·intro w'
     go_simp
     with_reducible rfl
    rotate_left
    ·simp only[Act.put,jq5,jq6,jq7,i64_w,i32_w]
     rfl
    refine pure_ (i:=18) (N:=some 23) (v:=?_) (a':=?_) #[Z,Z,Z,Z,Z,Z,Z,Z,Z,Z,Z,Z,Z,Z,Z,Z,Y,Y,Z,Y,Y,Y,Y] rfl rfl (any_of HT_.out (by kernel_rfl)) (fun _ _ _ h=>h) (Or.inl ⟨by rfl,?_⟩) ?_ ?_
    rotate_left
    ·intro w'
     go_simp
     with_reducible rfl
    rotate_left
    ·simp only[Act.put,jq5,jq6,jq7,i64_w,i32_w]
     rfl
    refine take_ (i:=16) (N:=some 21) (v:=?_) (a':=?_) #[Z,Z,Z,Z,Z,Z,Z,Z,Z,Z,Z,Z,Z,Z,Z,Z,Z,Y,Z,Y,Y,Y,Y] rfl rfl (take_ofW HT_.out HW_.out (by kernel_rfl)) (fun _ _ _ h=>h) (Or.inl ⟨by rfl,?_⟩) hHeld ?_ ?_
    rotate_left
    ·rintro w' ⟨s0,s1,s2,s3⟩
     go_simp
     with_reducible rfl
    rotate_left
    ·simp only[Act.put,jq5,jq6,jq7,i64_w,i32_w]
     rfl
    refine take_ (i:=19) (N:=some 24) (v:=?_) (a':=?_) #[Z,Z,Z,Z,Z,Z,Z,Z,Z,Z,Z,Z,Z,Z,Z,Z,Z,Y,Z,Z,Y,Y,Y] rfl rfl (take_ofW HT_.out HW_.out (by kernel_rfl)) (fun _ _ _ h=>h) (Or.inl ⟨by rfl,?_⟩) hHeld ?_ ?_
    rotate_left
    ·rintro w' ⟨s0,s1,s2,s3⟩
     go_simp
     with_reducible rfl
    rotate_left
    ·simp only[Act.put,jq5,jq6,jq7,i64_w,i32_w]
     rfl
    refine one_ (i:=17) (N:=some 22) #[Z,Z,Z,Z,Z,Z,Z,Z,Z,Z,Z,Z,Z,Z,Z,Z,Z,Z,Z,Z,Y,Y,Y] rfl rfl (one_of HT_.out (by kernel_rfl)) (by decide) (fun K hK=>?_)
    refine goes_ Try.func98 (by kernel_rfl) rfl #[.agg #[.int .i64 a1_0,.slice A1_1 l1_1.length c1_1,.int .i64 a1_2,.int .i64 a1_3]] (by rfl) rfl rfl (by(try simp only[jq0,jq1,jq2]);first|done|rfl|(simp only[jq3,jq4];rfl)) ?_
    with_reducible refine(qxk.calls k a1_0 _ _ l1_1 a1_2 a1_3 t102 _ ?side1 ?side2 A6.out).mono ?_
    (case side1=>solve_by_elim only[(Kd.C_below HR1_1.out HB.out),Kd.C_alloc,Kd.C_drewN,Kd.C_drew])
    (case side2=>exact HC1_1.out)
    rintro e w10 ⟨v103,rfl,ho0,hb⟩
    refine⟨_,rfl,?_⟩
    have HO104:=U.mk (Kd.R_lower ho0 (zj (by solve_by_elim (maxDepth:=20) only[HB.out,G,J,qq,qk,GE101.out])))
    replace BK101:=U.mk (vx (g:=gb101) (o:=.cells #[.int .i64 a1_0,.slice A1_1 l1_1.length c1_1,.int .i64 a1_2,.int .i64 a1_3] 61 (0,0)) (by solve_by_elim only[BK101.out,qw,qx,qv]) hb)
    replace HB:=U.mk (zz (by solve_by_elim (maxDepth:=20) only[HB.out,G,J,qq,qk,GE101.out]) hb)
    (try clear hb)
    (try clear hb2)
    (try clear hk)
    (try clear hi)
    (try clear ho0)
    obtain⟨Ao11,co11,eo11⟩:=Kd.R_slice HO104.out
    (first|subst eo11|(injection eo11 with f1_ f2_ f3_;have f4_:=f1_.symm;have f5_:=f3_.symm;clear f1_ f2_ f3_;subst f4_;subst f5_))
    refine hK.out _ _ ⟨(qj BK101.out 0).trans rfl,(qj BK101.out 1).trans rfl,(qj BK101.out 2).trans rfl,(qj BK101.out 3).trans rfl⟩ (fun hHeld=>?_)
    clear hK K
    refine norm_ (a':=?_) ?_ ?_
    rotate_left
    ·show Act.put _ (some 22) _=_
     simp only[Act.put,jq5,jq6,jq7,i64_w,i32_w]
     rfl
    refine one_ (i:=20) (N:=some 25) #[Z,Z,Z,Z,Z,Z,Z,Z,Z,Z,Z,Z,Z,Z,Z,Z,Z,Z,Z,Z,Z,Y,Y] rfl rfl (one_of HT_.out (by kernel_rfl)) (by decide) (fun K hK=>?_)
    refine goes_ Try.func97 (by kernel_rfl) rfl #[.int .i64 a0,.slice Ao11 t102.length co11,.agg #[.int .i64 a1_2,.int .i64 a1_3]] (by rfl) rfl rfl (by(try simp only[jq0,jq1,jq2]);first|done|rfl|(simp only[jq3,jq4];rfl)) ?_
    with_reducible refine(qkw.calls k a0 _ _ t102 a1_2 a1_3 t105 _ ?side1 ?side2 A7.out).mono ?_
    (case side1=>solve_by_elim only[(Kd.R_reads' HO104.out).2.2,Kd.C_alloc,Kd.C_drewN,Kd.C_drew])
    (case side2=>exact(Kd.R_reads' HO104.out).2.1)
    rintro e w12 ⟨rfl,hb⟩
    refine⟨_,rfl,?_⟩
    replace HO104:=U.mk (Kd.R_below (by solve_by_elim only[HO104.out,Kd.zv,Kd.zk,Kd.zw]) hb)
    replace BK101:=U.mk (vx (g:=gb101) (o:=.cells #[.int .i64 a1_0,.slice A1_1 l1_1.length c1_1,.int .i64 a1_2,.int .i64 a1_3] 61 (0,0)) (by solve_by_elim only[BK101.out,qw,qx,qv]) hb)
    replace HB:=U.mk (zz (by solve_by_elim (maxDepth:=20) only[HB.out,G,J,qq,qk,GE101.out]) hb)
    (try clear hb)
    (try clear hb2)
    (try clear hk)
    (try clear hi)
    refine hK.out _ _ ⟨(qj BK101.out 0).trans rfl,(qj BK101.out 1).trans rfl,(qj BK101.out 2).trans rfl,(qj BK101.out 3).trans rfl⟩ (fun hHeld=>?_)
    clear hK K
    refine norm_ (a':=?_) ?_ ?_
    rotate_left
    ·show Act.put _ (some 25) _=_
     simp only[Act.put,jq5,jq6,jq7,i64_w,i32_w]
     rfl
    refine pure_ (i:=21) (N:=some 26) (v:=?_) (a':=?_) #[Z,Z,Z,Z,Z,Z,Z,Z,Z,Z,Z,Z,Z,Z,Z,Z,Z,Z,Z,Z,Z,Z,Y] rfl rfl (any_of HT_.out (by kernel_rfl)) (fun _ _ _ h=>h) (Or.inl ⟨by rfl,?_⟩) ?_ ?_
    rotate_left
    ·intro w'
     go_simp
     with_reducible rfl
    rotate_left
    ·simp only[Act.put,jq5,jq6,jq7,i64_w,i32_w]
     rfl
    refine pure_ (i:=22) (N:=some 4) (v:=?_) (a':=?_) #[Z,Z,Z,Z,Z,Z,Z,Z,Z,Z,Z,Z,Z,Z,Z,Z,Z,Z,Z,Z,Z,Z,Z] rfl rfl (any_of HT_.out (by kernel_rfl)) (fun _ _ _ h=>h) (Or.inl ⟨by rfl,?_⟩) ?_ ?_
    rotate_left
    ·intro w'
     go_simp
     with_reducible rfl
    rotate_left
    ·simp only[Act.put,jq5,jq6,jq7,i64_w,i32_w]
     rfl
    refine done_ (done_of HT_.out (by kernel_rfl)) ?_
    try go_wp2
    go_ret
    exact⟨by first|rfl|(simp[*,jv,jk] <;> rfl),by repeat(first|(with_reducible first|exact HB.out|apply G|apply J|apply qq|refine qk ?_ GE101.out)|exact HB.out)⟩
   ·rw[if_neg c5] at H
    have c5b0:((l1_1.length:Int) == 16)=false:=beq_eq_false_iff_ne.mpr c5
    have c5b1:((l1_1.length:Int) != 16)=true:=bne_iff_ne.mpr c5
    obtain rfl:=Option.some.inj H
    go_enter Try.func54,Try.ntmps54
    try go_wp2_with (first|((with_reducible refine gate_dst (N:=3) rfl ?_);(try (refine gate_guard (by rfl) ?_;dsimp only));refine box_event ?hg (N:=3) ?hd (cs:=#[.int .i64 a1_0,.slice A1_1 l1_1.length c1_1,.int .i64 a1_2,.int .i64 a1_3]) (t:=61) ?hr ?_;(case hd=>rfl);(case hg=>rfl);(case hr=>first|(go_simp;done)|(go_simp;rfl));intro gb101 hg w13 hbox hb;have BK101:=U.mk (hbox);have GW101:=U.mk ((by rw[hg];exact(zj (by solve_by_elim only[HB.out,G,J,qq])):w.heap.size≤gb101));have GE101:=U.mk ((by rw[hg];exact(zj (by solve_by_elim only[HB.out,G,J,qq])):w.heap.size≤gb101));replace HB:=U.mk (zz (by solve_by_elim only[HB.out,G,J,qq]) hb);clear hb hbox hg))
    replace BK101:=U.mk (qx BK101.out)
    replace HB:=U.mk (qq HB.out)
    refine start_ (n:=23) (S:=fun w'=>w'.cell? ⟨gb101,0,none⟩ = some (.int .i64 a1_0)∧w'.cell? ⟨gb101,1,none⟩ = some (.slice A1_1 l1_1.length c1_1)∧w'.cell? ⟨gb101,2,none⟩ = some (.int .i64 a1_2)∧w'.cell? ⟨gb101,3,none⟩ = some (.int .i64 a1_3)) (ds:=[]) #[Y,Y,Y,Y,Y,Y,Y,Y,Y,Y,Y,Y,Y,Y,Y,Y,Y,Y,Y,Y,Y,Y,Y] (by kernel_rfl) rfl rfl ⟨(qj BK101.out 0).trans rfl,(qj BK101.out 1).trans rfl,(qj BK101.out 2).trans rfl,(qj BK101.out 3).trans rfl⟩ (fun hHeld=>?_);refine with_tabW qjw.tab1 qjw.bits1 (fun HT_ HW_=>?_)
    generalize w13.drew=w14 at BK101 HB hHeld ⊢
    refine pure_ (i:=0) (N:=some 5) (v:=?_) (a':=?_) #[Z,Y,Y,Y,Y,Y,Y,Y,Y,Y,Y,Y,Y,Y,Y,Y,Y,Y,Y,Y,Y,Y,Y] rfl rfl (any_of HT_.out (by kernel_rfl)) (fun _ _ _ h=>h) (Or.inl ⟨by rfl,?_⟩) ?_ ?_
    rotate_left
    ·intro w'
     go_simp
     with_reducible rfl
    rotate_left
    ·simp only[Act.put,jq5,jq6,jq7,i64_w,i32_w]
     rfl
    refine take_ (i:=1) (N:=some 6) (v:=?_) (a':=?_) #[Z,Z,Y,Y,Y,Y,Y,Y,Y,Y,Y,Y,Y,Y,Y,Y,Y,Y,Y,Y,Y,Y,Y] rfl rfl (take_ofW HT_.out HW_.out (by kernel_rfl)) (fun _ _ _ h=>h) (Or.inl ⟨by rfl,?_⟩) hHeld ?_ ?_
    rotate_left
    ·rintro w' ⟨s0,s1,s2,s3⟩
     go_simp
     with_reducible rfl
    rotate_left
    ·simp only[Act.put,jq5,jq6,jq7,i64_w,i32_w]
     rfl
    refine pure_ (i:=2) (N:=some 7) (v:=?_) (a':=?_) #[Z,Z,Z,Y,Y,Y,Y,Y,Y,Y,Y,Y,Y,Y,Y,Y,Y,Y,Y,Y,Y,Y,Y] rfl rfl (any_of HT_.out (by kernel_rfl)) (fun _ _ _ h=>h) (Or.inl ⟨by rfl,?_⟩) ?_ ?_
    rotate_left
    ·intro w'
     go_simp
     with_reducible rfl
    rotate_left
    ·simp only[Act.put,jq5,jq6,jq7,i64_w,i32_w]
     rfl
    refine pure_ (i:=3) (N:=some 8) (v:=?_) (a':=?_) #[Z,Z,Z,Z,Y,Y,Y,Y,Y,Y,Y,Y,Y,Y,Y,Y,Y,Y,Y,Y,Y,Y,Y] rfl rfl (any_of HT_.out (by kernel_rfl)) (fun _ _ _ h=>h) (Or.inl ⟨by rfl,?_⟩) ?_ ?_
    rotate_left
    ·intro w'
     go_simp
     with_reducible rfl
    rotate_left
    ·simp only[Act.put,jq5,jq6,jq7,i64_w,i32_w]
     rfl
    refine pure_ (i:=4) (N:=some 9) (v:=?_) (a':=?_) #[Z,Z,Z,Z,Z,Y,Y,Y,Y,Y,Y,Y,Y,Y,Y,Y,Y,Y,Y,Y,Y,Y,Y] rfl rfl (any_of HT_.out (by kernel_rfl)) (fun _ _ _ h=>h) (Or.inl ⟨by rfl,?_⟩) ?_ ?_
    rotate_left
    ·intro w'
     go_simp
     with_reducible rfl
    rotate_left
    ·simp only[Act.put,jq5,jq6,jq7,i64_w,i32_w]
     rfl
    refine take_ (i:=5) (N:=some 10) (v:=?_) (a':=?_) #[Z,Z,Z,Z,Z,Z,Y,Y,Y,Y,Y,Y,Y,Y,Y,Y,Y,Y,Y,Y,Y,Y,Y] rfl rfl (take_ofW HT_.out HW_.out (by kernel_rfl)) (fun _ _ _ h=>h) (Or.inl ⟨by rfl,?_⟩) hHeld ?_ ?_
    rotate_left
    ·rintro w' ⟨s0,s1,s2,s3⟩
     go_simp
     with_reducible rfl
    rotate_left
    ·simp only[Act.put,jq5,jq6,jq7,i64_w,i32_w]
     rfl
    refine pure_ (i:=6) (N:=some 11) (v:=?_) (a':=?_) #[Z,Z,Z,Z,Z,Z,Z,Y,Y,Y,Y,Y,Y,Y,Y,Y,Y,Y,Y,Y,Y,Y,Y] rfl rfl (any_of HT_.out (by kernel_rfl)) (fun _ _ _ h=>h) (Or.inl ⟨by rfl,?_⟩) ?_ ?_
    rotate_left
    ·intro w'
     go_simp
     with_reducible rfl
    rotate_left
    ·simp only[Act.put,jq5,jq6,jq7,i64_w,i32_w]
     rfl
    refine pure_ (i:=7) (N:=some 12) (v:=?_) (a':=?_) #[Z,Z,Z,Z,Z,Z,Z,Z,Y,Y,Y,Y,Y,Y,Y,Y,Y,Y,Y,Y,Y,Y,Y] rfl rfl (any_of HT_.out (by kernel_rfl)) (fun _ _ _ h=>h) (Or.inl ⟨by rfl,?_⟩) ?_ ?_
    rotate_left
    ·intro w'
     go_simp
     with_reducible rfl
    rotate_left
    ·simp only[Act.put,jq5,jq6,jq7,i64_w,i32_w]
     rfl
    refine pure_ (i:=8) (N:=some 13) (v:=?_) (a':=?_) #[Z,Z,Z,Z,Z,Z,Z,Z,Z,Y,Y,Y,Y,Y,Y,Y,Y,Y,Y,Y,Y,Y,Y] rfl rfl (any_of HT_.out (by kernel_rfl)) (fun _ _ _ h=>h) (Or.inl ⟨by rfl,?_⟩) ?_ ?_
    rotate_left
    ·intro w'
     go_simp
     with_reducible rfl
    rotate_left
    ·simp only[Act.put,jq5,jq6,jq7,i64_w,i32_w]
     rfl
    refine pure_ (i:=9) (N:=some 14) (v:=?_) (a':=?_) #[Z,Z,Z,Z,Z,Z,Z,Z,Z,Z,Y,Y,Y,Y,Y,Y,Y,Y,Y,Y,Y,Y,Y] rfl rfl (any_of HT_.out (by kernel_rfl)) (fun _ _ _ h=>h) (Or.inl ⟨by rfl,?_⟩) ?_ ?_
    rotate_left
    ·intro w'
     go_simp
     with_reducible rfl
    rotate_left
    ·simp only[Act.put,jq5,jq6,jq7,i64_w,i32_w]
     rfl
    refine take_ (i:=10) (N:=some 15) (v:=?_) (a':=?_) #[Z,Z,Z,Z,Z,Z,Z,Z,Z,Z,Z,Y,Y,Y,Y,Y,Y,Y,Y,Y,Y,Y,Y] rfl rfl (take_ofW HT_.out HW_.out (by kernel_rfl)) (fun _ _ _ h=>h) (Or.inl ⟨by rfl,?_⟩) hHeld ?_ ?_
    rotate_left
    ·rintro w' ⟨s0,s1,s2,s3⟩
     go_simp
     with_reducible rfl
    rotate_left
    ·simp only[Act.put,jq5,jq6,jq7,i64_w,i32_w]
     rfl
    refine pure_ (i:=11) (N:=some 16) (v:=?_) (a':=?_) #[Z,Z,Z,Z,Z,Z,Z,Z,Z,Z,Z,Z,Y,Y,Y,Y,Y,Y,Y,Y,Y,Y,Y] rfl rfl (any_of HT_.out (by kernel_rfl)) (fun _ _ _ h=>h) (Or.inl ⟨by rfl,?_⟩) ?_ ?_
    rotate_left
    ·intro w'
     go_simp
     with_reducible rfl
    rotate_left
    ·simp only[Act.put,jq5,jq6,jq7,i64_w,i32_w]
     rfl
    refine pure_ (i:=12) (N:=some 17) (v:=?_) (a':=?_) #[Z,Z,Z,Z,Z,Z,Z,Z,Z,Z,Z,Z,Z,Y,Y,Y,Y,Y,Y,Y,Y,Y,Y] rfl rfl (any_of HT_.out (by kernel_rfl)) (fun _ _ _ h=>h) (Or.inl ⟨by rfl,?_⟩) ?_ ?_
    rotate_left
    ·intro w'
     go_simp
     with_reducible rfl
    rotate_left
    ·simp only[Act.put,jq5,jq6,jq7,i64_w,i32_w]
     rfl
    refine pure_ (i:=13) (N:=some 18) (v:=?_) (a':=?_) #[Z,Z,Z,Z,Z,Z,Z,Z,Z,Z,Z,Z,Z,Z,Y,Y,Y,Y,Y,Y,Y,Y,Y] rfl rfl (any_of HT_.out (by kernel_rfl)) (fun _ _ _ h=>h) (Or.inl ⟨by rfl,?_⟩) ?_ ?_
    rotate_left
    ·intro w'
     go_simp
     with_reducible rfl
    rotate_left
    ·simp only[Act.put,jq5,jq6,jq7,i64_w,i32_w]
     rfl
    refine pure_ (i:=14) (N:=some 19) (v:=?_) (a':=?_) #[Z,Z,Z,Z,Z,Z,Z,Z,Z,Z,Z,Z,Z,Z,Z,Y,Y,Y,Y,Y,Y,Y,Y] rfl rfl (any_of HT_.out (by kernel_rfl)) (fun _ _ _ h=>h) (Or.inl ⟨by rfl,?_⟩) ?_ ?_
    rotate_left
    ·intro w'
     go_simp
     with_reducible rfl
    rotate_left
    ·simp only[Act.put,jq5,jq6,jq7,i64_w,i32_w]
     rfl
    refine pure_ (i:=15) (N:=some 20) (v:=undef) (a':=?_) #[Z,Z,Z,Z,Z,Z,Z,Z,Z,Z,Z,Z,Z,Z,Z,Z,Y,Y,Y,Y,Y,Y,Y] rfl rfl (any_of HT_.out (by kernel_rfl)) (fun _ _ _ h=>h) (Or.inr ⟨by rfl,rfl⟩) ?_ ?_
    rotate_left
    ·simp only[Act.put,jq5,jq6,jq7,i64_w,i32_w]
     rfl
    refine pure_ (i:=16) (N:=some 21) (v:=undef) (a':=?_) #[Z,Z,Z,Z,Z,Z,Z,Z,Z,Z,Z,Z,Z,Z,Z,Z,Z,Y,Y,Y,Y,Y,Y] rfl rfl (any_of HT_.out (by kernel_rfl)) (fun _ _ _ h=>h) (Or.inr ⟨by rfl,rfl⟩) ?_ ?_
    rotate_left
    ·simp only[Act.put,jq5,jq6,jq7,i64_w,i32_w]
     rfl
    refine pure_ (i:=17) (N:=some 22) (v:=undef) (a':=?_) #[Z,Z,Z,Z,Z,Z,Z,Z,Z,Z,Z,Z,Z,Z,Z,Z,Z,Z,Y,Y,Y,Y,Y] rfl rfl (any_of HT_.out (by kernel_rfl)) (fun _ _ _ h=>h) (Or.inr ⟨by rfl,rfl⟩) ?_ ?_
    rotate_left
    ·simp only[Act.put,jq5,jq6,jq7,i64_w,i32_w]
     rfl
    refine pure_ (i:=18) (N:=some 23) (v:=undef) (a':=?_) #[Z,Z,Z,Z,Z,Z,Z,Z,Z,Z,Z,Z,Z,Z,Z,Z,Z,Z,Z,Y,Y,Y,Y] rfl rfl (any_of HT_.out (by kernel_rfl)) (fun _ _ _ h=>h) (Or.inr ⟨by rfl,rfl⟩) ?_ ?_
    rotate_left
    ·simp only[Act.put,jq5,jq6,jq7,i64_w,i32_w]
     rfl
    refine pure_ (i:=19) (N:=some 24) (v:=undef) (a':=?_) #[Z,Z,Z,Z,Z,Z,Z,Z,Z,Z,Z,Z,Z,Z,Z,Z,Z,Z,Z,Z,Y,Y,Y] rfl rfl (any_of HT_.out (by kernel_rfl)) (fun _ _ _ h=>h) (Or.inr ⟨by rfl,rfl⟩) ?_ ?_
    rotate_left
    ·simp only[Act.put,jq5,jq6,jq7,i64_w,i32_w]
     rfl
    refine pure_ (i:=20) (N:=some 25) (v:=undef) (a':=?_) #[Z,Z,Z,Z,Z,Z,Z,Z,Z,Z,Z,Z,Z,Z,Z,Z,Z,Z,Z,Z,Z,Y,Y] rfl rfl (any_of HT_.out (by kernel_rfl)) (fun _ _ _ h=>h) (Or.inr ⟨by rfl,rfl⟩) ?_ ?_
    rotate_left
    ·simp only[Act.put,jq5,jq6,jq7,i64_w,i32_w]
     rfl
    refine pure_ (i:=21) (N:=some 26) (v:=?_) (a':=?_) #[Z,Z,Z,Z,Z,Z,Z,Z,Z,Z,Z,Z,Z,Z,Z,Z,Z,Z,Z,Z,Z,Z,Y] rfl rfl (any_of HT_.out (by kernel_rfl)) (fun _ _ _ h=>h) (Or.inl ⟨by rfl,?_⟩) ?_ ?_
    rotate_left
    ·intro w'
     go_simp
     with_reducible rfl
    rotate_left
    ·simp only[Act.put,jq5,jq6,jq7,i64_w,i32_w]
     rfl
    refine pure_ (i:=22) (N:=some 4) (v:=?_) (a':=?_) #[Z,Z,Z,Z,Z,Z,Z,Z,Z,Z,Z,Z,Z,Z,Z,Z,Z,Z,Z,Z,Z,Z,Z] rfl rfl (any_of HT_.out (by kernel_rfl)) (fun _ _ _ h=>h) (Or.inl ⟨by rfl,?_⟩) ?_ ?_
    rotate_left
    ·intro w'
     go_simp
     with_reducible rfl
    rotate_left
    ·simp only[Act.put,jq5,jq6,jq7,i64_w,i32_w]
     rfl
    refine done_ (done_of HT_.out (by kernel_rfl)) ?_
    try go_wp2
    go_ret
    exact⟨by first|rfl|(simp[*,jv,jk] <;> rfl),by repeat(first|(with_reducible first|exact HB.out|apply G|apply J|apply qq|refine qk ?_ GE101.out)|exact HB.out)⟩
  ·rw[if_neg c4] at H
   have c4b0:decide (a1_0≤200)=false:=decide_eq_false c4
   clear c4
   obtain rfl:=Option.some.inj H
   go_enter Try.func54,Try.ntmps54
   try go_wp2_with (first|((with_reducible refine gate_dst (N:=3) rfl ?_);(try (refine gate_guard (by rfl) ?_;dsimp only));refine box_event ?hg (N:=3) ?hd (cs:=#[.int .i64 a1_0,.slice A1_1 l1_1.length c1_1,.int .i64 a1_2,.int .i64 a1_3]) (t:=61) ?hr ?_;(case hd=>rfl);(case hg=>rfl);(case hr=>first|(go_simp;done)|(go_simp;rfl));intro gb101 hg w15 hbox hb;have BK101:=U.mk (hbox);have GW101:=U.mk ((by rw[hg];exact(zj (by solve_by_elim only[HB.out,G,J,qq])):w.heap.size≤gb101));have GE101:=U.mk ((by rw[hg];exact(zj (by solve_by_elim only[HB.out,G,J,qq])):w.heap.size≤gb101));replace HB:=U.mk (zz (by solve_by_elim only[HB.out,G,J,qq]) hb);clear hb hbox hg))
   replace BK101:=U.mk (qx BK101.out)
   replace HB:=U.mk (qq HB.out)
   refine start_ (n:=23) (S:=fun w'=>w'.cell? ⟨gb101,0,none⟩ = some (.int .i64 a1_0)∧w'.cell? ⟨gb101,1,none⟩ = some (.slice A1_1 l1_1.length c1_1)∧w'.cell? ⟨gb101,2,none⟩ = some (.int .i64 a1_2)∧w'.cell? ⟨gb101,3,none⟩ = some (.int .i64 a1_3)) (ds:=[]) #[Y,Y,Y,Y,Y,Y,Y,Y,Y,Y,Y,Y,Y,Y,Y,Y,Y,Y,Y,Y,Y,Y,Y] (by kernel_rfl) rfl rfl ⟨(qj BK101.out 0).trans rfl,(qj BK101.out 1).trans rfl,(qj BK101.out 2).trans rfl,(qj BK101.out 3).trans rfl⟩ (fun hHeld=>?_);refine with_tabW qjw.tab1 qjw.bits1 (fun HT_ HW_=>?_)
   generalize w15.drew=w16 at BK101 HB hHeld ⊢
   refine pure_ (i:=0) (N:=some 5) (v:=?_) (a':=?_) #[Z,Y,Y,Y,Y,Y,Y,Y,Y,Y,Y,Y,Y,Y,Y,Y,Y,Y,Y,Y,Y,Y,Y] rfl rfl (any_of HT_.out (by kernel_rfl)) (fun _ _ _ h=>h) (Or.inl ⟨by rfl,?_⟩) ?_ ?_
   rotate_left
   ·intro w'
    go_simp
    with_reducible rfl
   rotate_left
   ·simp only[Act.put,jq5,jq6,jq7,i64_w,i32_w]
    rfl
   refine take_ (i:=1) (N:=some 6) (v:=?_) (a':=?_) #[Z,Z,Y,Y,Y,Y,Y,Y,Y,Y,Y,Y,Y,Y,Y,Y,Y,Y,Y,Y,Y,Y,Y] rfl rfl (take_ofW HT_.out HW_.out (by kernel_rfl)) (fun _ _ _ h=>h) (Or.inl ⟨by rfl,?_⟩) hHeld ?_ ?_
   rotate_left
   ·rintro w' ⟨s0,s1,s2,s3⟩
    go_simp
    with_reducible rfl
   rotate_left
   ·simp only[Act.put,jq5,jq6,jq7,i64_w,i32_w]
    rfl
   refine pure_ (i:=2) (N:=some 7) (v:=?_) (a':=?_) #[Z,Z,Z,Y,Y,Y,Y,Y,Y,Y,Y,Y,Y,Y,Y,Y,Y,Y,Y,Y,Y,Y,Y] rfl rfl (any_of HT_.out (by kernel_rfl)) (fun _ _ _ h=>h) (Or.inl ⟨by rfl,?_⟩) ?_ ?_
   rotate_left
   ·intro w'
    go_simp
    with_reducible rfl
   rotate_left
   ·simp only[Act.put,jq5,jq6,jq7,i64_w,i32_w]
    rfl
   refine pure_ (i:=3) (N:=some 8) (v:=?_) (a':=?_) #[Z,Z,Z,Z,Y,Y,Y,Y,Y,Y,Y,Y,Y,Y,Y,Y,Y,Y,Y,Y,Y,Y,Y] rfl rfl (any_of HT_.out (by kernel_rfl)) (fun _ _ _ h=>h) (Or.inl ⟨by rfl,?_⟩) ?_ ?_
   rotate_left
   ·intro w'
    go_simp
    with_reducible rfl
   rotate_left
   ·simp only[Act.put,jq5,jq6,jq7,i64_w,i32_w]
    rfl
   refine pure_ (i:=4) (N:=some 9) (v:=?_) (a':=?_) #[Z,Z,Z,Z,Z,Y,Y,Y,Y,Y,Y,Y,Y,Y,Y,Y,Y,Y,Y,Y,Y,Y,Y] rfl rfl (any_of HT_.out (by kernel_rfl)) (fun _ _ _ h=>h) (Or.inl ⟨by rfl,?_⟩) ?_ ?_
   rotate_left
   ·intro w'
    go_simp
    with_reducible rfl
   rotate_left
   ·simp only[Act.put,jq5,jq6,jq7,i64_w,i32_w]
    rfl
   refine take_ (i:=5) (N:=some 10) (v:=?_) (a':=?_) #[Z,Z,Z,Z,Z,Z,Y,Y,Y,Y,Y,Y,Y,Y,Y,Y,Y,Y,Y,Y,Y,Y,Y] rfl rfl (take_ofW HT_.out HW_.out (by kernel_rfl)) (fun _ _ _ h=>h) (Or.inl ⟨by rfl,?_⟩) hHeld ?_ ?_
   rotate_left
   ·rintro w' ⟨s0,s1,s2,s3⟩
    go_simp
    with_reducible rfl
   rotate_left
   ·simp only[Act.put,jq5,jq6,jq7,i64_w,i32_w]
    rfl
   refine pure_ (i:=6) (N:=some 11) (v:=?_) (a':=?_) #[Z,Z,Z,Z,Z,Z,Z,Y,Y,Y,Y,Y,Y,Y,Y,Y,Y,Y,Y,Y,Y,Y,Y] rfl rfl (any_of HT_.out (by kernel_rfl)) (fun _ _ _ h=>h) (Or.inl ⟨by rfl,?_⟩) ?_ ?_
   rotate_left
   ·intro w'
    go_simp
    with_reducible rfl
   rotate_left
   ·simp only[Act.put,jq5,jq6,jq7,i64_w,i32_w]
    rfl
   refine pure_ (i:=7) (N:=some 12) (v:=?_) (a':=?_) #[Z,Z,Z,Z,Z,Z,Z,Z,Y,Y,Y,Y,Y,Y,Y,Y,Y,Y,Y,Y,Y,Y,Y] rfl rfl (any_of HT_.out (by kernel_rfl)) (fun _ _ _ h=>h) (Or.inl ⟨by rfl,?_⟩) ?_ ?_
   rotate_left
   ·intro w'
    go_simp
    with_reducible rfl
   rotate_left
   ·simp only[Act.put,jq5,jq6,jq7,i64_w,i32_w]
    rfl
   refine pure_ (i:=8) (N:=some 13) (v:=?_) (a':=?_) #[Z,Z,Z,Z,Z,Z,Z,Z,Z,Y,Y,Y,Y,Y,Y,Y,Y,Y,Y,Y,Y,Y,Y] rfl rfl (any_of HT_.out (by kernel_rfl)) (fun _ _ _ h=>h) (Or.inl ⟨by rfl,?_⟩) ?_ ?_
   rotate_left
   ·intro w'
    go_simp
    with_reducible rfl
   rotate_left
   ·simp only[Act.put,jq5,jq6,jq7,i64_w,i32_w]
    rfl
   refine pure_ (i:=9) (N:=some 14) (v:=undef) (a':=?_) #[Z,Z,Z,Z,Z,Z,Z,Z,Z,Z,Y,Y,Y,Y,Y,Y,Y,Y,Y,Y,Y,Y,Y] rfl rfl (any_of HT_.out (by kernel_rfl)) (fun _ _ _ h=>h) (Or.inr ⟨by rfl,rfl⟩) ?_ ?_
   rotate_left
   ·simp only[Act.put,jq5,jq6,jq7,i64_w,i32_w]
    rfl
   refine pure_ (i:=10) (N:=some 15) (v:=undef) (a':=?_) #[Z,Z,Z,Z,Z,Z,Z,Z,Z,Z,Z,Y,Y,Y,Y,Y,Y,Y,Y,Y,Y,Y,Y] rfl rfl (any_of HT_.out (by kernel_rfl)) (fun _ _ _ h=>h) (Or.inr ⟨by rfl,rfl⟩) ?_ ?_
   rotate_left
   ·simp only[Act.put,jq5,jq6,jq7,i64_w,i32_w]
    rfl
   refine pure_ (i:=11) (N:=some 16) (v:=undef) (a':=?_) #[Z,Z,Z,Z,Z,Z,Z,Z,Z,Z,Z,Z,Y,Y,Y,Y,Y,Y,Y,Y,Y,Y,Y] rfl rfl (any_of HT_.out (by kernel_rfl)) (fun _ _ _ h=>h) (Or.inr ⟨by rfl,rfl⟩) ?_ ?_
   rotate_left
   ·simp only[Act.put,jq5,jq6,jq7,i64_w,i32_w]
    rfl
   refine pure_ (i:=12) (N:=some 17) (v:=undef) (a':=?_) #[Z,Z,Z,Z,Z,Z,Z,Z,Z,Z,Z,Z,Z,Y,Y,Y,Y,Y,Y,Y,Y,Y,Y] rfl rfl (any_of HT_.out (by kernel_rfl)) (fun _ _ _ h=>h) (Or.inr ⟨by rfl,rfl⟩) ?_ ?_
   rotate_left
   ·simp only[Act.put,jq5,jq6,jq7,i64_w,i32_w]
    rfl
   refine pure_ (i:=13) (N:=some 18) (v:=?_) (a':=?_) #[Z,Z,Z,Z,Z,Z,Z,Z,Z,Z,Z,Z,Z,Z,Y,Y,Y,Y,Y,Y,Y,Y,Y] rfl rfl (any_of HT_.out (by kernel_rfl)) (fun _ _ _ h=>h) (Or.inl ⟨by rfl,?_⟩) ?_ ?_
   rotate_left
   ·intro w'
    go_simp
    with_reducible rfl
   rotate_left
   ·simp only[Act.put,jq5,jq6,jq7,i64_w,i32_w]
    rfl
   refine pure_ (i:=14) (N:=some 19) (v:=?_) (a':=?_) #[Z,Z,Z,Z,Z,Z,Z,Z,Z,Z,Z,Z,Z,Z,Z,Y,Y,Y,Y,Y,Y,Y,Y] rfl rfl (any_of HT_.out (by kernel_rfl)) (fun _ _ _ h=>h) (Or.inl ⟨by rfl,?_⟩) ?_ ?_
   rotate_left
   ·intro w'
    go_simp
    with_reducible rfl
   rotate_left
   ·simp only[Act.put,jq5,jq6,jq7,i64_w,i32_w]
    rfl
   refine pure_ (i:=15) (N:=some 20) (v:=undef) (a':=?_) #[Z,Z,Z,Z,Z,Z,Z,Z,Z,Z,Z,Z,Z,Z,Z,Z,Y,Y,Y,Y,Y,Y,Y] rfl rfl (any_of HT_.out (by kernel_rfl)) (fun _ _ _ h=>h) (Or.inr ⟨by rfl,rfl⟩) ?_ ?_
   rotate_left
   ·simp only[Act.put,jq5,jq6,jq7,i64_w,i32_w]
    rfl
   refine pure_ (i:=16) (N:=some 21) (v:=undef) (a':=?_) #[Z,Z,Z,Z,Z,Z,Z,Z,Z,Z,Z,Z,Z,Z,Z,Z,Z,Y,Y,Y,Y,Y,Y] rfl rfl (any_of HT_.out (by kernel_rfl)) (fun _ _ _ h=>h) (Or.inr ⟨by rfl,rfl⟩) ?_ ?_
   rotate_left
   ·simp only[Act.put,jq5,jq6,jq7,i64_w,i32_w]
    rfl
   refine pure_ (i:=17) (N:=some 22) (v:=undef) (a':=?_) #[Z,Z,Z,Z,Z,Z,Z,Z,Z,Z,Z,Z,Z,Z,Z,Z,Z,Z,Y,Y,Y,Y,Y] rfl rfl (any_of HT_.out (by kernel_rfl)) (fun _ _ _ h=>h) (Or.inr ⟨by rfl,rfl⟩) ?_ ?_
   rotate_left
   ·simp only[Act.put,jq5,jq6,jq7,i64_w,i32_w]
    rfl
   refine pure_ (i:=18) (N:=some 23) (v:=undef) (a':=?_) #[Z,Z,Z,Z,Z,Z,Z,Z,Z,Z,Z,Z,Z,Z,Z,Z,Z,Z,Z,Y,Y,Y,Y] rfl rfl (any_of HT_.out (by kernel_rfl)) (fun _ _ _ h=>h) (Or.inr ⟨by rfl,rfl⟩) ?_ ?_
   rotate_left
   ·simp only[Act.put,jq5,jq6,jq7,i64_w,i32_w]
    rfl
   refine pure_ (i:=19) (N:=some 24) (v:=undef) (a':=?_) #[Z,Z,Z,Z,Z,Z,Z,Z,Z,Z,Z,Z,Z,Z,Z,Z,Z,Z,Z,Z,Y,Y,Y] rfl rfl (any_of HT_.out (by kernel_rfl)) (fun _ _ _ h=>h) (Or.inr ⟨by rfl,rfl⟩) ?_ ?_
   rotate_left
   ·simp only[Act.put,jq5,jq6,jq7,i64_w,i32_w]
    rfl
   refine pure_ (i:=20) (N:=some 25) (v:=undef) (a':=?_) #[Z,Z,Z,Z,Z,Z,Z,Z,Z,Z,Z,Z,Z,Z,Z,Z,Z,Z,Z,Z,Z,Y,Y] rfl rfl (any_of HT_.out (by kernel_rfl)) (fun _ _ _ h=>h) (Or.inr ⟨by rfl,rfl⟩) ?_ ?_
   rotate_left
   ·simp only[Act.put,jq5,jq6,jq7,i64_w,i32_w]
    rfl
   refine pure_ (i:=21) (N:=some 26) (v:=?_) (a':=?_) #[Z,Z,Z,Z,Z,Z,Z,Z,Z,Z,Z,Z,Z,Z,Z,Z,Z,Z,Z,Z,Z,Z,Y] rfl rfl (any_of HT_.out (by kernel_rfl)) (fun _ _ _ h=>h) (Or.inl ⟨by rfl,?_⟩) ?_ ?_
   rotate_left
   ·intro w'
    go_simp
    with_reducible rfl
   rotate_left
   ·simp only[Act.put,jq5,jq6,jq7,i64_w,i32_w]
    rfl
   refine pure_ (i:=22) (N:=some 4) (v:=?_) (a':=?_) #[Z,Z,Z,Z,Z,Z,Z,Z,Z,Z,Z,Z,Z,Z,Z,Z,Z,Z,Z,Z,Z,Z,Z] rfl rfl (any_of HT_.out (by kernel_rfl)) (fun _ _ _ h=>h) (Or.inl ⟨by rfl,?_⟩) ?_ ?_
   rotate_left
   ·intro w'
    go_simp
    with_reducible rfl
   rotate_left
   ·simp only[Act.put,jq5,jq6,jq7,i64_w,i32_w]
    rfl
   refine done_ (done_of HT_.out (by kernel_rfl)) ?_
   try go_wp2
   go_ret
   exact⟨by first|rfl|(simp[*,jv,jk] <;> rfl),by repeat(first|(with_reducible first|exact HB.out|apply G|apply J|apply qq|refine qk ?_ GE101.out)|exact HB.out)⟩
 ·rw[if_neg c3] at H
  have c3b0:decide (0≤a1_0)=false:=decide_eq_false c3
  clear c3
  obtain rfl:=Option.some.inj H
  go_enter Try.func54,Try.ntmps54
  try go_wp2_with (first|((with_reducible refine gate_dst (N:=3) rfl ?_);(try (refine gate_guard (by rfl) ?_;dsimp only));refine box_event ?hg (N:=3) ?hd (cs:=#[.int .i64 a1_0,.slice A1_1 l1_1.length c1_1,.int .i64 a1_2,.int .i64 a1_3]) (t:=61) ?hr ?_;(case hd=>rfl);(case hg=>rfl);(case hr=>first|(go_simp;done)|(go_simp;rfl));intro gb101 hg w17 hbox hb;have BK101:=U.mk (hbox);have GW101:=U.mk ((by rw[hg];exact(zj (by solve_by_elim only[HB.out,G,J,qq])):w.heap.size≤gb101));have GE101:=U.mk ((by rw[hg];exact(zj (by solve_by_elim only[HB.out,G,J,qq])):w.heap.size≤gb101));replace HB:=U.mk (zz (by solve_by_elim only[HB.out,G,J,qq]) hb);clear hb hbox hg))
  replace BK101:=U.mk (qx BK101.out)
  replace HB:=U.mk (qq HB.out)
  refine start_ (n:=23) (S:=fun w'=>w'.cell? ⟨gb101,0,none⟩ = some (.int .i64 a1_0)∧w'.cell? ⟨gb101,1,none⟩ = some (.slice A1_1 l1_1.length c1_1)∧w'.cell? ⟨gb101,2,none⟩ = some (.int .i64 a1_2)∧w'.cell? ⟨gb101,3,none⟩ = some (.int .i64 a1_3)) (ds:=[]) #[Y,Y,Y,Y,Y,Y,Y,Y,Y,Y,Y,Y,Y,Y,Y,Y,Y,Y,Y,Y,Y,Y,Y] (by kernel_rfl) rfl rfl ⟨(qj BK101.out 0).trans rfl,(qj BK101.out 1).trans rfl,(qj BK101.out 2).trans rfl,(qj BK101.out 3).trans rfl⟩ (fun hHeld=>?_);refine with_tabW qjw.tab1 qjw.bits1 (fun HT_ HW_=>?_)
  generalize w17.drew=w18 at BK101 HB hHeld ⊢
  refine pure_ (i:=0) (N:=some 5) (v:=?_) (a':=?_) #[Z,Y,Y,Y,Y,Y,Y,Y,Y,Y,Y,Y,Y,Y,Y,Y,Y,Y,Y,Y,Y,Y,Y] rfl rfl (any_of HT_.out (by kernel_rfl)) (fun _ _ _ h=>h) (Or.inl ⟨by rfl,?_⟩) ?_ ?_
  rotate_left
  ·intro w'
   go_simp
   with_reducible rfl
  rotate_left
  ·simp only[Act.put,jq5,jq6,jq7,i64_w,i32_w]
   rfl
  refine take_ (i:=1) (N:=some 6) (v:=?_) (a':=?_) #[Z,Z,Y,Y,Y,Y,Y,Y,Y,Y,Y,Y,Y,Y,Y,Y,Y,Y,Y,Y,Y,Y,Y] rfl rfl (take_ofW HT_.out HW_.out (by kernel_rfl)) (fun _ _ _ h=>h) (Or.inl ⟨by rfl,?_⟩) hHeld ?_ ?_
  rotate_left
  ·rintro w' ⟨s0,s1,s2,s3⟩
   go_simp
   with_reducible rfl
  rotate_left
  ·simp only[Act.put,jq5,jq6,jq7,i64_w,i32_w]
   rfl
  refine pure_ (i:=2) (N:=some 7) (v:=?_) (a':=?_) #[Z,Z,Z,Y,Y,Y,Y,Y,Y,Y,Y,Y,Y,Y,Y,Y,Y,Y,Y,Y,Y,Y,Y] rfl rfl (any_of HT_.out (by kernel_rfl)) (fun _ _ _ h=>h) (Or.inl ⟨by rfl,?_⟩) ?_ ?_
  rotate_left
  ·intro w'
   go_simp
   with_reducible rfl
  rotate_left
  ·simp only[Act.put,jq5,jq6,jq7,i64_w,i32_w]
   rfl
  refine pure_ (i:=3) (N:=some 8) (v:=?_) (a':=?_) #[Z,Z,Z,Z,Y,Y,Y,Y,Y,Y,Y,Y,Y,Y,Y,Y,Y,Y,Y,Y,Y,Y,Y] rfl rfl (any_of HT_.out (by kernel_rfl)) (fun _ _ _ h=>h) (Or.inl ⟨by rfl,?_⟩) ?_ ?_
  rotate_left
  ·intro w'
   go_simp
   with_reducible rfl
  rotate_left
  ·simp only[Act.put,jq5,jq6,jq7,i64_w,i32_w]
   rfl
  refine pure_ (i:=4) (N:=some 9) (v:=undef) (a':=?_) #[Z,Z,Z,Z,Z,Y,Y,Y,Y,Y,Y,Y,Y,Y,Y,Y,Y,Y,Y,Y,Y,Y,Y] rfl rfl (any_of HT_.out (by kernel_rfl)) (fun _ _ _ h=>h) (Or.inr ⟨by rfl,rfl⟩) ?_ ?_
  rotate_left
  ·simp only[Act.put,jq5,jq6,jq7,i64_w,i32_w]
   rfl
  refine pure_ (i:=5) (N:=some 10) (v:=undef) (a':=?_) #[Z,Z,Z,Z,Z,Z,Y,Y,Y,Y,Y,Y,Y,Y,Y,Y,Y,Y,Y,Y,Y,Y,Y] rfl rfl (any_of HT_.out (by kernel_rfl)) (fun _ _ _ h=>h) (Or.inr ⟨by rfl,rfl⟩) ?_ ?_
  rotate_left
  ·simp only[Act.put,jq5,jq6,jq7,i64_w,i32_w]
   rfl
  refine pure_ (i:=6) (N:=some 11) (v:=undef) (a':=?_) #[Z,Z,Z,Z,Z,Z,Z,Y,Y,Y,Y,Y,Y,Y,Y,Y,Y,Y,Y,Y,Y,Y,Y] rfl rfl (any_of HT_.out (by kernel_rfl)) (fun _ _ _ h=>h) (Or.inr ⟨by rfl,rfl⟩) ?_ ?_
  rotate_left
  ·simp only[Act.put,jq5,jq6,jq7,i64_w,i32_w]
   rfl
  refine pure_ (i:=7) (N:=some 12) (v:=?_) (a':=?_) #[Z,Z,Z,Z,Z,Z,Z,Z,Y,Y,Y,Y,Y,Y,Y,Y,Y,Y,Y,Y,Y,Y,Y] rfl rfl (any_of HT_.out (by kernel_rfl)) (fun _ _ _ h=>h) (Or.inl ⟨by rfl,?_⟩) ?_ ?_
  rotate_left
  ·intro w'
   go_simp
   with_reducible rfl
  rotate_left
  ·simp only[Act.put,jq5,jq6,jq7,i64_w,i32_w]
   rfl
  refine pure_ (i:=8) (N:=some 13) (v:=?_) (a':=?_) #[Z,Z,Z,Z,Z,Z,Z,Z,Z,Y,Y,Y,Y,Y,Y,Y,Y,Y,Y,Y,Y,Y,Y] rfl rfl (any_of HT_.out (by kernel_rfl)) (fun _ _ _ h=>h) (Or.inl ⟨by rfl,?_⟩) ?_ ?_
  rotate_left
  ·intro w'
   go_simp
   with_reducible rfl
  rotate_left
  ·simp only[Act.put,jq5,jq6,jq7,i64_w,i32_w]
   rfl
  refine pure_ (i:=9) (N:=some 14) (v:=undef) (a':=?_) #[Z,Z,Z,Z,Z,Z,Z,Z,Z,Z,Y,Y,Y,Y,Y,Y,Y,Y,Y,Y,Y,Y,Y] rfl rfl (any_of HT_.out (by kernel_rfl)) (fun _ _ _ h=>h) (Or.inr ⟨by rfl,rfl⟩) ?_ ?_
  rotate_left
  ·simp only[Act.put,jq5,jq6,jq7,i64_w,i32_w]
   rfl
  refine pure_ (i:=10) (N:=some 15) (v:=undef) (a':=?_) #[Z,Z,Z,Z,Z,Z,Z,Z,Z,Z,Z,Y,Y,Y,Y,Y,Y,Y,Y,Y,Y,Y,Y] rfl rfl (any_of HT_.out (by kernel_rfl)) (fun _ _ _ h=>h) (Or.inr ⟨by rfl,rfl⟩) ?_ ?_
  rotate_left
  ·simp only[Act.put,jq5,jq6,jq7,i64_w,i32_w]
   rfl
  refine pure_ (i:=11) (N:=some 16) (v:=undef) (a':=?_) #[Z,Z,Z,Z,Z,Z,Z,Z,Z,Z,Z,Z,Y,Y,Y,Y,Y,Y,Y,Y,Y,Y,Y] rfl rfl (any_of HT_.out (by kernel_rfl)) (fun _ _ _ h=>h) (Or.inr ⟨by rfl,rfl⟩) ?_ ?_
  rotate_left
  ·simp only[Act.put,jq5,jq6,jq7,i64_w,i32_w]
   rfl
  refine pure_ (i:=12) (N:=some 17) (v:=undef) (a':=?_) #[Z,Z,Z,Z,Z,Z,Z,Z,Z,Z,Z,Z,Z,Y,Y,Y,Y,Y,Y,Y,Y,Y,Y] rfl rfl (any_of HT_.out (by kernel_rfl)) (fun _ _ _ h=>h) (Or.inr ⟨by rfl,rfl⟩) ?_ ?_
  rotate_left
  ·simp only[Act.put,jq5,jq6,jq7,i64_w,i32_w]
   rfl
  refine pure_ (i:=13) (N:=some 18) (v:=?_) (a':=?_) #[Z,Z,Z,Z,Z,Z,Z,Z,Z,Z,Z,Z,Z,Z,Y,Y,Y,Y,Y,Y,Y,Y,Y] rfl rfl (any_of HT_.out (by kernel_rfl)) (fun _ _ _ h=>h) (Or.inl ⟨by rfl,?_⟩) ?_ ?_
  rotate_left
  ·intro w'
   go_simp
   with_reducible rfl
  rotate_left
  ·simp only[Act.put,jq5,jq6,jq7,i64_w,i32_w]
   rfl
  refine pure_ (i:=14) (N:=some 19) (v:=?_) (a':=?_) #[Z,Z,Z,Z,Z,Z,Z,Z,Z,Z,Z,Z,Z,Z,Z,Y,Y,Y,Y,Y,Y,Y,Y] rfl rfl (any_of HT_.out (by kernel_rfl)) (fun _ _ _ h=>h) (Or.inl ⟨by rfl,?_⟩) ?_ ?_
  rotate_left
  ·intro w'
   go_simp
   with_reducible rfl
  rotate_left
  ·simp only[Act.put,jq5,jq6,jq7,i64_w,i32_w]
   rfl
  refine pure_ (i:=15) (N:=some 20) (v:=undef) (a':=?_) #[Z,Z,Z,Z,Z,Z,Z,Z,Z,Z,Z,Z,Z,Z,Z,Z,Y,Y,Y,Y,Y,Y,Y] rfl rfl (any_of HT_.out (by kernel_rfl)) (fun _ _ _ h=>h) (Or.inr ⟨by rfl,rfl⟩) ?_ ?_
  rotate_left
  ·simp only[Act.put,jq5,jq6,jq7,i64_w,i32_w]
   rfl
  refine pure_ (i:=16) (N:=some 21) (v:=undef) (a':=?_) #[Z,Z,Z,Z,Z,Z,Z,Z,Z,Z,Z,Z,Z,Z,Z,Z,Z,Y,Y,Y,Y,Y,Y] rfl rfl (any_of HT_.out (by kernel_rfl)) (fun _ _ _ h=>h) (Or.inr ⟨by rfl,rfl⟩) ?_ ?_
  rotate_left
  ·simp only[Act.put,jq5,jq6,jq7,i64_w,i32_w]
   rfl
  refine pure_ (i:=17) (N:=some 22) (v:=undef) (a':=?_) #[Z,Z,Z,Z,Z,Z,Z,Z,Z,Z,Z,Z,Z,Z,Z,Z,Z,Z,Y,Y,Y,Y,Y] rfl rfl (any_of HT_.out (by kernel_rfl)) (fun _ _ _ h=>h) (Or.inr ⟨by rfl,rfl⟩) ?_ ?_
  rotate_left
  ·simp only[Act.put,jq5,jq6,jq7,i64_w,i32_w]
   rfl
  refine pure_ (i:=18) (N:=some 23) (v:=undef) (a':=?_) #[Z,Z,Z,Z,Z,Z,Z,Z,Z,Z,Z,Z,Z,Z,Z,Z,Z,Z,Z,Y,Y,Y,Y] rfl rfl (any_of HT_.out (by kernel_rfl)) (fun _ _ _ h=>h) (Or.inr ⟨by rfl,rfl⟩) ?_ ?_
  rotate_left
  ·simp only[Act.put,jq5,jq6,jq7,i64_w,i32_w]
   rfl
  refine pure_ (i:=19) (N:=some 24) (v:=undef) (a':=?_) #[Z,Z,Z,Z,Z,Z,Z,Z,Z,Z,Z,Z,Z,Z,Z,Z,Z,Z,Z,Z,Y,Y,Y] rfl rfl (any_of HT_.out (by kernel_rfl)) (fun _ _ _ h=>h) (Or.inr ⟨by rfl,rfl⟩) ?_ ?_
  rotate_left
  ·simp only[Act.put,jq5,jq6,jq7,i64_w,i32_w]
   rfl
  refine pure_ (i:=20) (N:=some 25) (v:=undef) (a':=?_) #[Z,Z,Z,Z,Z,Z,Z,Z,Z,Z,Z,Z,Z,Z,Z,Z,Z,Z,Z,Z,Z,Y,Y] rfl rfl (any_of HT_.out (by kernel_rfl)) (fun _ _ _ h=>h) (Or.inr ⟨by rfl,rfl⟩) ?_ ?_
  rotate_left
  ·simp only[Act.put,jq5,jq6,jq7,i64_w,i32_w]
   rfl
  refine pure_ (i:=21) (N:=some 26) (v:=?_) (a':=?_) #[Z,Z,Z,Z,Z,Z,Z,Z,Z,Z,Z,Z,Z,Z,Z,Z,Z,Z,Z,Z,Z,Z,Y] rfl rfl (any_of HT_.out (by kernel_rfl)) (fun _ _ _ h=>h) (Or.inl ⟨by rfl,?_⟩) ?_ ?_
  rotate_left
  ·intro w'
   go_simp
   with_reducible rfl
  rotate_left
  ·simp only[Act.put,jq5,jq6,jq7,i64_w,i32_w]
   rfl
  refine pure_ (i:=22) (N:=some 4) (v:=?_) (a':=?_) #[Z,Z,Z,Z,Z,Z,Z,Z,Z,Z,Z,Z,Z,Z,Z,Z,Z,Z,Z,Z,Z,Z,Z] rfl rfl (any_of HT_.out (by kernel_rfl)) (fun _ _ _ h=>h) (Or.inl ⟨by rfl,?_⟩) ?_ ?_
  rotate_left
  ·intro w'
   go_simp
   with_reducible rfl
  rotate_left
  ·simp only[Act.put,jq5,jq6,jq7,i64_w,i32_w]
   rfl
  refine done_ (done_of HT_.out (by kernel_rfl)) ?_
  try go_wp2
  go_ret
  exact⟨by first|rfl|(simp[*,jv,jk] <;> rfl),by repeat(first|(with_reducible first|exact HB.out|apply G|apply J|apply qq|refine qk ?_ GE101.out)|exact HB.out)⟩
end Go.Proofs.Ytipdkendfcopiaa.Pr
namespace Go.Proofs.Ytipdkendfcopiaa.Pr
open Go.RowKit Go.Proofs.YtipdkendfcopiaaW.PrintWords Go.Proofs.YtipdkendfcopiaaW.PrintLast Go.Proofs.YtipdkendfcopiaaW.PrintMore
set_option linter.unusedVariables false
theorem not16_calls (A:Option Addr) (n c:Nat) (w:World) :
  Calls Try.prog 124 #[.slice A n c] w fun e w'=>e=.returned (.bool (decide ((n:Int)≠16)))∧Drawn0 w w':=by
 go_enter Try.func124,Try.ntmps124
 go_wp2
 go_ret
 refine⟨?_,⟨⟨0,rfl⟩⟩⟩
 by_cases h:(n:Int)=16 <;> simp[h]
def bad16 (l:List (List Int)):Bool:=l.any fun b=>b.length != 16
theorem bad16_take {l:List (List Int)} {k:Nat} (hk:k < l.length):bad16 (l.take (k + 1))=(bad16 (l.take k) || ((rd_L2 l k).length != 16)):=by
 unfold bad16
 rw[List.take_succ_eq_append_getElem hk,List.any_append]
 simp[rd_L2,List.getD_eq_getElem?_getD,List.getElem?_eq_getElem hk]
set_option maxHeartbeats 1000000 in
theorem index16_calls (A0:Option Addr) (c0:Nat) (l0:List (List Int)) (w:World) (hr0:Kd.C (Kd.slice 5 (Kd.int .u8)) w A0 l0.length l0) (hc0:l0.length≤c0) :
  Calls Try.prog 138 #[.slice A0 l0.length c0,.func (.func 124) #[] #[]] w fun e w'=>∃ i:Int,e=.returned (.int .i64 i)∧decide (0≤i)=bad16 l0∧Drawn0 w w':=by
 have hmax:=Kd.C_max hr0
 have HR0:=U.mk hr0
 have HM:=U.mk hmax
 clear hr0 hc0 hmax
 have eg:Enters Try.prog 124:=enters_of Try.func124 (by kernel_rfl) rfl
 go_enter Try.func138,Try.ntmps138
 go_wp2
 go_loopw [5,8] (fun v5 i W=>∃ k:Nat,k≤l0.length∧i=.int .i64 k∧U (bad16 (l0.take k)=false∧Drawn0 w W)) (fun _ i _=>l0.length - (intOf i).toNat)
 case atStart=>exact⟨0,by omega,rfl,⟨rfl,Drawn0.refl _⟩⟩
 case round =>
  obtain⟨k,hk,rfl,HW⟩:=hrel
  have hmax:=HM.out
  by_cases hlt:k < l0.length
  ·obtain⟨ad,A1,c1,rfl,hcell,hl1,hC1⟩:=at_L2 HR0.out k (by omega) (by omega)
   rw[Int.toNat_natCast] at hcell
   have hcell2:wr.cell? (ad.add k)=some (.slice A1 (rd_L2 l0 k).length c1):=by
    obtain⟨⟨nd,e⟩⟩:=HW.out.2
    rw[e]
    exact hcell
   clear hcell hC1
   obtain⟨n,en⟩ : ∃ n,n=(rd_L2 l0 k).length:=⟨_,rfl⟩
   rw[← en] at hcell2
   have hstep:=bad16_take hlt
   rw[HW.out.1,Bool.false_or,← en] at hstep
   clear en
   by_cases h16:n=16
   ·have hd:decide ((n:Int)≠16)=false:=decide_eq_false (by omega)
    have HN:U (bad16 (l0.take (k + 1))=false):=⟨by rw[hstep,h16];rfl⟩
    clear hstep hl1 h16
    have hcall:∀ W:World,Calls Try.prog 124 #[.slice A1 n c1] W fun e w'=>e=.returned (.bool false)∧∃ q,w'=W.drewN q:=fun W=>(not16_calls A1 n c1 W).mono fun e w' h=>⟨by rw[h.1,hd],h.2.1⟩
    clear hd
    go_wp2_with (go_at_call 124;refine(hcall _).mono ?_;rintro e w' ⟨rfl,nd,rfl⟩)
    clear hcall
    go_roundw
    case rel=>exact⟨k + 1,by omega,by go_num,⟨HN.out,by repeat(first|exact HW.out.2|apply Drawn0.step)⟩⟩
    case measure=>simp[intOf];omega
   ·have hd:decide ((n:Int)≠16)=true:=decide_eq_true (by omega)
    have hb:bad16 l0=true:=by
     have h1:bad16 (l0.take (k + 1))=true:=by rw[hstep];simpa using h16
     unfold bad16 at h1 ⊢
     rw[List.any_eq_true] at h1 ⊢
     obtain⟨x,hx,hx2⟩:=h1
     exact⟨x,List.mem_of_mem_take hx,hx2⟩
    have HN:=U.mk hb
    clear hstep hl1 hb
    have hcall:∀ W:World,Calls Try.prog 124 #[.slice A1 n c1] W fun e w'=>e=.returned (.bool true)∧∃ q,w'=W.drewN q:=fun W=>(not16_calls A1 n c1 W).mono fun e w' h=>⟨by rw[h.1,hd],h.2.1⟩
    clear hd
    go_wp2_with (go_at_call 124;refine(hcall _).mono ?_;rintro e w' ⟨rfl,nd,rfl⟩)
    go_ret
    exact⟨k,rfl,by rw[HN.out];exact decide_eq_true (by omega),by repeat(first|exact HW.out.2|apply Drawn0.step)⟩
  ·obtain rfl:k=l0.length:=by omega
   rw[List.take_length] at HW
   go_wp2
   go_ret
   exact⟨-1,rfl,by rw[HW.out.1];rfl,HW.out.2⟩
theorem contains16_calls (A0:Option Addr) (c0:Nat) (l0:List (List Int)) (w:World) (hr0:Kd.C (Kd.slice 5 (Kd.int .u8)) w A0 l0.length l0) (hc0:l0.length≤c0) :
  Calls Try.prog 123 #[.slice A0 l0.length c0,.func (.func 124) #[] #[]] w fun e w'=>e=.returned (.bool (bad16 l0))∧Drawn0 w w':=by
 go_enter Try.func123,Try.ntmps123
 go_wp2_with (go_at_call 138;refine(index16_calls A0 c0 l0 _ hr0 hc0).mono ?_;rintro e w' ⟨i,rfl,hi,⟨⟨nd,rfl⟩⟩⟩)
 go_ret
 exact⟨by simp only[← hi];rfl,⟨⟨_,rfl⟩⟩⟩
def qjz.f (l0:List (List Int)):Option Bool:=some (!bad16 l0)
theorem qjz.calls (A0:Option Addr) (c0:Nat) (l0:List (List Int)) (r:Bool) (w:World) (hr0:Kd.C (Kd.slice 5 (Kd.int .u8)) w A0 l0.length l0) (hc0:l0.length≤c0) (h:qjz.f l0=some r) :
  Calls Try.prog 92 #[.slice A0 l0.length c0] w fun e w'=>e=.returned (.bool r)∧Drawn0 w w':=by
 obtain rfl:=Option.some.inj h
 go_enter Try.func92,Try.ntmps92
 go_wp2_with (go_at_call 123;refine(contains16_calls A0 c0 l0 _ hr0 hc0).mono ?_;rintro e w' ⟨rfl,⟨⟨nd,rfl⟩⟩⟩)
 go_ret
 exact⟨rfl,⟨⟨_,rfl⟩⟩⟩
end Go.Proofs.Ytipdkendfcopiaa.Pr
namespace Go.Proofs.Ytipdkendfcopiaa.Pr
open Go.RowKit Go.Proofs.YtipdkendfcopiaaW.PrintWords Go.Proofs.YtipdkendfcopiaaW.PrintLast Go.Proofs.YtipdkendfcopiaaW.PrintMore
attribute [local go_sem] max2_int min2_int max_two min_two max_three min_three max_four min_four
set_option linter.unusedVariables false
set_option linter.unusedSimpArgs false
def qzv.l0:Nat→Int→Int→Int→Int→Option (Int)
 | 0,_,_,_,_=>none
 | k + 1,x0,x1,x2,x7=>if x1 > 0 then(if (Go.bits .and .i64 x1 1)=1 then(if x2=0 then(none) else(qzv.l0 k (Int.tmod (wrap64 (x0 * x0)) x2) (x1 / 2) x2 (Int.tmod (wrap64 (x7 * x0)) x2))) else(if x2=0 then(none) else(qzv.l0 k (Int.tmod (wrap64 (x0 * x0)) x2) (x1 / 2) x2 x7))) else(some x7)
def qzv.f (k:Nat) (a0:Int) (a1:Int) (a2:Int):Option (Int):=if a2=0 then(none) else(qzv.l0 k (Int.tmod a0 a2) a1 a2 1)
theorem qzv.calls (k:Nat) (a0:Int) (a1:Int) (a2:Int) (r:Int) (w:World) (h:qzv.f k a0 a1 a2=some r) :
  Calls Try.prog 127 #[.int .i64 a0,.int .i64 a1,.int .i64 a2] w fun e w'=>e=.returned (.int .i64 r)∧Drawn0 w w':=by
 have H:(if a2=0 then(none) else(qzv.l0 k (Int.tmod a0 a2) a1 a2 1))=some r:=h
 clear h
 by_cases c4:a2=0
 ·rw[if_pos c4] at H
  exact absurd H (by simp)
 ·rw[if_neg c4] at H
  have c4b0:(a2 == 0)=false:=beq_eq_false_iff_ne.mpr c4
  have c4b1:(a2 != 0)=true:=bne_iff_ne.mpr c4
  have H':=U.mk H
  clear H
  go_enter Try.func127,Try.ntmps127
  go_wp2
  go_loopg [0,1,7] k (fun kq v0 v1 v7 w'=>∃ (x0_1:Int) (x1_1:Int) (x7_1:Int),v0=.int .i64 x0_1∧v1=.int .i64 x1_1∧v7=.int .i64 x7_1∧U (qzv.l0 kq x0_1 x1_1 a2 x7_1=some r)∧U (kq≤k)∧Drawn0 w w')
  case atStart=>exact⟨(Int.tmod a0 a2),(a1),(1),(by first|rfl|(simp;done)|(simp[*];done)),(by first|rfl|(simp;done)|(simp[*];done)),(by first|rfl|(simp;done)|(simp[*];done)),H',⟨Nat.le_refl _⟩,by repeat(first|exact Drawn0.refl _|apply Drawn0.step)⟩
  case round =>
   clear H'
   try clear c1
   try clear p2
   try clear c4
   try clear c4b0
   try clear c4b1
   obtain⟨x0_1,x1_1,x7_1,rfl,rfl,rfl,HA,HK1,⟨m1,rfl⟩⟩:=hrel
   cases gk with
   | zero=>exact absurd HA.out (by simp[qzv.l0])
   | succ k1 =>
    have H:=HA.out
    clear HA
    simp only[qzv.l0] at H
    by_cases c5:x1_1 > 0
    ·rw[if_pos c5] at H
     have c5b0:decide (0 < x1_1)=true:=decide_eq_true c5
     clear c5
     by_cases c6:(Go.bits .and .i64 x1_1 1)=1
     ·rw[if_pos c6] at H
      have c6b0:((Go.bits .and .i64 x1_1 1) == 1)=true:=beq_iff_eq.mpr c6
      have c6b1:((Go.bits .and .i64 x1_1 1) != 1)=false:=bne_eq_false_iff_eq.mpr c6
      clear c6
      by_cases c7:a2=0
      ·rw[if_pos c7] at H
       exact absurd H (by simp)
      ·rw[if_neg c7] at H
       have c7b0:(a2 == 0)=false:=beq_eq_false_iff_ne.mpr c7
       have c7b1:(a2 != 0)=true:=bne_iff_ne.mpr c7
       have H':=U.mk H
       clear H
       go_wp2
       go_roundg k1
       case measure=>have:=HK1.out;omega
       case rel=>exact⟨(Int.tmod (wrap64 (x0_1 * x0_1)) a2),(x1_1 / 2),(Int.tmod (wrap64 (x7_1 * x0_1)) a2),(by first|rfl|(simp;done)|(simp[*];done)),(by first|rfl|(simp;done)|(simp[*];done)),(by first|rfl|(simp;done)|(simp[*];done)),H',⟨by have:=HK1.out;omega⟩,by repeat(first|exact Drawn0.refl _|apply Drawn0.step)⟩
     ·rw[if_neg c6] at H
      have c6b0:((Go.bits .and .i64 x1_1 1) == 1)=false:=beq_eq_false_iff_ne.mpr c6
      have c6b1:((Go.bits .and .i64 x1_1 1) != 1)=true:=bne_iff_ne.mpr c6
      by_cases c8:a2=0
      ·rw[if_pos c8] at H
       exact absurd H (by simp)
      ·rw[if_neg c8] at H
       have c8b0:(a2 == 0)=false:=beq_eq_false_iff_ne.mpr c8
       have c8b1:(a2 != 0)=true:=bne_iff_ne.mpr c8
       have H':=U.mk H
       clear H
       go_wp2
       go_roundg k1
       case measure=>have:=HK1.out;omega
       case rel=>exact⟨(Int.tmod (wrap64 (x0_1 * x0_1)) a2),(x1_1 / 2),(x7_1),(by first|rfl|(simp;done)|(simp[*];done)),(by first|rfl|(simp;done)|(simp[*];done)),(by first|rfl|(simp;done)|(simp[*];done)),H',⟨by have:=HK1.out;omega⟩,by repeat(first|exact Drawn0.refl _|apply Drawn0.step)⟩
    ·rw[if_neg c5] at H
     have c5b0:decide (0 < x1_1)=false:=decide_eq_false c5
     clear c5
     obtain rfl:=Option.some.inj H
     go_wp2
     go_ret
     exact⟨by first|rfl|(simp;done)|(simp[*];done),by repeat(first|exact Drawn0.refl _|apply Drawn0.step)⟩
end Go.Proofs.Ytipdkendfcopiaa.Pr
namespace Go.Proofs.Ytipdkendfcopiaa.Pr
open Go.RowKit Go.Proofs.YtipdkendfcopiaaW.PrintWords Go.Proofs.YtipdkendfcopiaaW.PrintLast Go.Proofs.YtipdkendfcopiaaW.PrintMore
attribute [local go_sem] max2_int min2_int max_two min_two max_three min_three max_four min_four
set_option linter.unusedVariables false
set_option linter.unusedSimpArgs false
def qqw.f (a0:Int):Option (List Int):=some (([(a0) % 256,(a0 / 256) % 256,(a0 / 65536) % 256,(a0 / 16777216) % 256]:List Int))
theorem qqw.calls (a0:Int) (r:List Int) (w:World) (h:qqw.f a0=some r) :
  Calls Try.prog 79 #[.int .i64 a0] w fun e w'=>∃ v0_:Value,e=.returned (v0_)∧Kd.R (Kd.int .u8) 5 w' w.heap.size (fun _=>True) v0_ r∧Below w.heap.size w w':=by
 have HB:=U.mk (Below.refl w.heap.size w)
 unfold qqw.f at h
 have H:=h
 clear h
 obtain⟨y101,hy101⟩ : ∃ y_:List Int,y_=(([(a0) % 256,(a0 / 256) % 256,(a0 / 65536) % 256,(a0 / 16777216) % 256]:List Int)):=⟨_,rfl⟩
 replace H:(some y101)=some r:=by first|(rw[hy101];with_reducible exact H)|(have H2_:=(Option.bind_some _ _).symm.trans H;rw[hy101];with_reducible exact H2_)|(have H2_:=(Option.bind_some _ _).symm.trans H;with_reducible exact H2_)|with_reducible exact H|(rw[hy101];exact H)|exact H
 have Ny101:=U.mk hy101
 clear hy101
 obtain rfl:=Option.some.inj H
 go_enter Try.func79,Try.ntmps79
 go_wp2_with (first|((with_reducible refine gate_dst (N:=14) rfl ?_);refine Kd.R_lit (Kd.int .u8) _ 5 ?hg (N:=14) ?hd (xs:=([(a0) % 256,(a0 / 256) % 256,(a0 / 65536) % 256,(a0 / 16777216) % 256]:List Int)) (inner:=[.int .u8 ((a0) % 256),.int .u8 ((a0 / 256) % 256),.int .u8 ((a0 / 65536) % 256),.int .u8 ((a0 / 16777216) % 256)]) (ok:=fun _=>True) (okp:=fun _=>True) ?hr ?hp (fun _ hk=>hk) trivial (Below.refl _ _) (Nat.le_refl _) (by simp) ?_;(case hd=>rfl);(case hg=>rfl);(case hr=>first|(go_simp;done)|(go_simp;rfl));(case hp=>exact(Reps.one (show Kd.M (Kd.int .u8) _ _ _ ((a0) % 256) [.int .u8 ((a0) % 256)] from rfl) (Reps.one (show Kd.M (Kd.int .u8) _ _ _ ((a0 / 256) % 256) [.int .u8 ((a0 / 256) % 256)] from rfl) (Reps.one (show Kd.M (Kd.int .u8) _ _ _ ((a0 / 65536) % 256) [.int .u8 ((a0 / 65536) % 256)] from rfl) (Reps.one (show Kd.M (Kd.int .u8) _ _ _ ((a0 / 16777216) % 256) [.int .u8 ((a0 / 16777216) % 256)] from rfl) (Reps.none _ _))))));intro v102 w2 ho3 hb hg_ hnew_;clear hg_ hnew_;(first|rw[← Ny101.out] at ho3|(simp only[Int.reduceToNat] at ho3;rw[← Ny101.out] at ho3));have HO103:=U.mk (Kd.R_lower ho3 (zj (by solve_by_elim only[HB.out,G,J,qq])));replace HB:=U.mk (zz (by solve_by_elim only[HB.out,G,J,qq]) hb);clear hb ho3))
 go_ret
 exact⟨_,by first|rfl|(simp[*,jv,jk] <;> rfl),by(with_reducible repeat(first|apply Kd.zv|apply Kd.zk|apply Kd.zw));exact HO103.out,by repeat(first|(with_reducible first|exact HB.out|apply G|apply J|apply qq)|exact HB.out)⟩
end Go.Proofs.Ytipdkendfcopiaa.Pr
namespace Go.Proofs.Ytipdkendfcopiaa.Pr
open Go.RowKit Go.Proofs.YtipdkendfcopiaaW.PrintWords Go.Proofs.YtipdkendfcopiaaW.PrintLast Go.Proofs.YtipdkendfcopiaaW.PrintMore
set_option linter.unusedVariables false
def mulT:List Int:=[1103515245,69069,1664525,22695477]
def stepAt (a:List Int) (x:Int) (i:Nat):List Int:=a.set i ((a.getD i 0 * mulT.getD i 0 + x + 1 + a.getD ((i+1)%4) 0) % 2147483579)
def mixN (a:List Int) (x:Int):Nat→List Int
 | 0=>a
 | i+1=>stepAt (mixN a x i) x i
structure OnlyB (w w':World) (g:Nat):Prop where
 os:w'.os=w.os
 tape:w'.tape=w.tape
 output:w'.output=w.output
 size:w'.heap.size=w.heap.size
 block:∀ k,k≠g→w'.heap[k]? = w.heap[k]?
theorem OnlyB.refl (w:World) (g:Nat):OnlyB w w g:=⟨rfl,rfl,rfl,rfl,fun _ _=>rfl⟩
theorem OnlyB.drew {w w':World} {g:Nat} (h:OnlyB w w' g):OnlyB w w'.drew g:=⟨h.os,h.tape,h.output,h.size,h.block⟩
theorem OnlyB.set {w w':World} {g:Nat} (h:OnlyB w w' g) (j:Nat) (u:Value):OnlyB w (w'.setCell ⟨g,j,none⟩ u) g :=
 ⟨h.os,h.tape,h.output,by simpa [World.setCell] using h.size,fun k hk=>(Below.heap_setCell w' ⟨g,j,none⟩ u k hk).trans (h.block k hk)⟩
theorem mulOk:∀ j:Nat,j < 4→0≤mulT.getD j 0∧mulT.getD j 0 < 2147483579:=by decide
theorem mix_len (l:List Int) (x:Int) (k:Nat):(mixN l x k).length=l.length:=by
 induction k with
 | zero=>rfl
 | succ k ih=>simp[mixN,stepAt,ih]
theorem prod_bd {a b:Int} (ha : 0≤a) (ha2:a < 2147483579) (hb : 0≤b) (hb2:b < 2147483579) : 0≤a * b∧a * b≤4611685717779682084:=by
 refine⟨Int.mul_nonneg ha hb,?_⟩
 have:=Int.mul_le_mul (show a≤2147483578 by omega) (show b≤2147483578 by omega) hb (by omega)
 omega
theorem mix_bd (l:List Int) (x:Int) (hx : 0≤x) (hl:l.length=4) (hb:∀ j,j < 4→0≤l.getD j 0∧l.getD j 0 < 2147483579) (k:Nat) (hk:k≤4):∀ j,j < 4→0≤(mixN l x k).getD j 0∧(mixN l x k).getD j 0 < 2147483579:=by
 induction k with
 | zero=>exact hb
 | succ k ih =>
  intro j hj
  have ih:=ih (by omega)
  have hlen:=mix_len l x k
  simp only[mixN,stepAt]
  by_cases e:j=k
  ·subst e
   rw[List.getD_eq_getElem?_getD,List.getElem?_set_self (by omega)]
   simp only[Option.getD_some]
   omega
  ·rw[List.getD_eq_getElem?_getD,List.getElem?_set_ne (by omega),← List.getD_eq_getElem?_getD]
   exact ih j hj
theorem nums_cell {w:World} {g:Nat} {l:List Int} {t:TypeId} (h:w.heap[g]? = some (.cells (nums .i64 l).toArray t (0,0))) (k:Nat) (hk:k < l.length):w.cell? ⟨g,k,none⟩ = some (.int .i64 (l.getD k 0)):=by
 rw[qj h]
 simp[nums,List.getElem?_map,List.getElem?_eq_getElem hk,List.getD_eq_getElem?_getD]
set_option maxHeartbeats 1000000 in
theorem eat_calls (x:Int) (l:List Int) (hl:l.length=4) (hb:∀ j,j < 4→0≤l.getD j 0∧l.getD j 0 < 2147483579) (ga gm:Nat) (w:World) (hx0 : 0≤x) (hx1:x≤255)
 (ha:w.heap[ga]? = some (.cells (nums .i64 l).toArray 113 (0,0))) (hm:w.heap[gm]? = some (.cells (nums .i64 mulT).toArray 113 (0,0))) (hne:ga≠gm) :
 Calls Try.prog 117 #[.int .u8 x,.pointer (some ⟨ga,0,none⟩),.pointer (some ⟨gm,0,none⟩)] w fun e w'=>e=.returned (.tuple #[])∧w'.heap[ga]? = some (.cells (nums .i64 (mixN l x 4)).toArray 113 (0,0))∧OnlyB w w' ga:=by
 have HL:=U.mk hl;have HB:=U.mk hb;have HA:=U.mk ha;have HM:=U.mk hm
 clear hl hb ha hm
 go_enter Try.func117,Try.ntmps117
 go_wp2
 go_loopw [5] (fun i wr=>∃ k:Nat,k≤4∧i=.int .i64 k∧U (wr.heap[ga]? = some (.cells (nums .i64 (mixN l x k)).toArray 113 (0,0))∧OnlyB w wr ga)) (fun i _=>4 - (intOf i).toNat)
 case atStart=>exact⟨0,by omega,rfl,⟨HA.out,OnlyB.refl _ _⟩⟩
 case round =>
  obtain⟨k,hk,rfl,HW⟩:=hrel
  by_cases hlt:k < 4
  ·obtain⟨a,ea⟩ : ∃ a,a=mixN l x k:=⟨_,rfl⟩
   have hc1:=nums_cell HW.out.1 k (by rw[mix_len,HL.out];omega)
   have hc2:=nums_cell HW.out.1 ((k+1)%4) (by rw[mix_len,HL.out];omega)
   have hc3:=nums_cell ((HW.out.2.block gm (Ne.symm hne)).trans HM.out) k hlt
   have hf:=qz HW.out.1 k
   have b1:=mix_bd l x hx0 HL.out HB.out k hk k hlt
   have b2:=mix_bd l x hx0 HL.out HB.out k hk ((k+1)%4) (by omega)
   have b3:=mulOk k hlt
   obtain⟨p1,eP1⟩ : ∃ p,p=(mixN l x k).getD k 0:=⟨_,rfl⟩
   obtain⟨p2,eP2⟩ : ∃ p,p=(mixN l x k).getD ((k+1)%4) 0:=⟨_,rfl⟩
   obtain⟨p3,eP3⟩ : ∃ p,p=mulT.getD k 0:=⟨_,rfl⟩
   rw[← eP1] at hc1 b1;rw[← eP2] at hc2 b2;rw[← eP3] at hc3 b3
   have b4:=prod_bd b1.1 b1.2 b3.1 b3.2
   have EP1:=U.mk eP1;have EP2:=U.mk eP2;have EP3:=U.mk eP3;have EA:=U.mk ea
   clear eP1 eP2 eP3 ea
   go_wp2
   have e1:IntKind.i64.wrap (p1 * p3)=p1 * p3:=IntWalk.i64_in _ (by omega)
   have e2:IntKind.i64.wrap x=x:=IntWalk.i64_in _ (by omega)
   have e3:IntKind.i64.wrap (p1 * p3 + x)=p1 * p3 + x:=IntWalk.i64_in _ (by omega)
   have e4:IntKind.i64.wrap (p1 * p3 + x + 1)=p1 * p3 + x + 1:=IntWalk.i64_in _ (by omega)
   have e5:IntKind.i64.wrap (k + 1)=k + 1:=IntWalk.i64_in _ (by omega)
   have e6:((k:Int) + 1).tmod 4=((k:Int) + 1) % 4:=Int.tmod_eq_emod_of_nonneg (by omega)
   have e7:IntKind.i64.wrap (p1 * p3 + x + 1 + p2)=p1 * p3 + x + 1 + p2:=IntWalk.i64_in _ (by omega)
   have e8:(p1 * p3 + x + 1 + p2).tmod 2147483579=(p1 * p3 + x + 1 + p2) % 2147483579:=Int.tmod_eq_emod_of_nonneg (by omega)
   have n0 : 0≤((k:Int) + 1) % 4:=by omega
   have n4:((k:Int) + 1) % 4 < 4:=by omega
   have n1:(((k:Int) + 1) % 4).toNat=(k + 1) % 4:=by omega
   go_still_tail 20,(by kernel_rfl)
   clear e1 e2 e3 e4 e5 e6 e7 e8 n0 n4 n1
   skip
   change wpList _ _ _ _ _ wr.drew
   have HW2:U (wr.drew.heap[ga]? = some (.cells (nums .i64 (mixN l x k)).toArray 113 (0,0))∧OnlyB w wr.drew ga):=⟨HW.out.1,HW.out.2.drew⟩
   clear HW hc1 hc2 hc3 hf
   generalize wr.drew=w2 at HW2 ⊢
   have hc1:=nums_cell HW2.out.1 k (by rw[mix_len,HL.out];omega)
   have hf:=qz HW2.out.1 k
   go_wp2
   go_roundw
   case rel =>
    refine⟨k + 1,by omega,by go_num,?_,HW2.out.2.set _ _⟩
    rw[blk_set HW2.out.1]
    simp only[mixN,stepAt,nums,List.map_set,jq5,EP1.out,EP2.out,EP3.out]
   case measure=>simp[intOf];omega
  ·go_wp2
   obtain rfl:k=4:=by omega
   exact bodyPost_end (results_none rfl _ _ _) rfl ⟨rfl,HW.out.1,HW.out.2⟩
def isBytes (l:List Int):Prop:=∀ x ∈ l,0≤x∧x≤255
instance (l:List Int):Decidable (isBytes l):=by unfold isBytes;infer_instance
def dgMix (a:List Int) (x:Int):List Int:=mixN a x 4
def dgAll (a:List Int) (xs:List Int):List Int:=xs.foldl dgMix a
def yb (n:Int):List Int:=[n % 256,(n / 256) % 256,(n / 65536) % 256,(n / 16777216) % 256]
def dgS (l:List Int):List Int:=dgAll (dgAll (dgAll [11,22,33,44] l) (yb l.length)) (List.replicate 8 0)
def dg (l:List Int):List Int:=(dgS l).flatMap yb
def xk.f (l0:List Int):Option (List Int):=if isBytes l0 then(if (l0.length:Int) > 20000 then none else some (dg l0)) else none
theorem yb_bytes (n:Int):isBytes (yb n):=by
 intro x hx
 simp only[yb,List.mem_cons,List.not_mem_nil,or_false] at hx
 omega
theorem yb_len (n:Int):(yb n).length=4:=rfl
structure DigInv (w wr:World) (a:List Int):Prop where
 A:wr.heap[w.heap.size]? = some (.cells (nums .i64 a).toArray 113 (0,0))
 M:wr.heap[w.heap.size + 1]? = some (.cells (nums .i64 mulT).toArray 113 (0,0))
 B:Below w.heap.size w wr
 len:a.length=4
 bd:∀ j,j < 4→0≤a.getD j 0∧a.getD j 0 < 2147483579
theorem DigInv.to {w wr w':World} {a:List Int} {x:Int} (h:DigInv w wr a) (hx : 0≤x) (h1:w'.heap[w.heap.size]? = some (.cells (nums .i64 (mixN a x 4)).toArray 113 (0,0))) (h2:OnlyB wr w' w.heap.size):DigInv w w' (dgMix a x) :=
 ⟨h1,(h2.block _ (by omega)).trans h.M,⟨h2.os.trans h.B.os,h2.tape.trans h.B.tape,h2.output.trans h.B.output,by rw[h2.size];exact h.B.size,fun k hk=>(h2.block k (by omega)).trans (h.B.block k hk)⟩,by rw[dgMix,mix_len,h.len],mix_bd a x hx h.len h.bd 4 (by omega)⟩
theorem DigInv.drew {w wr:World} {a:List Int} (h:DigInv w wr a):DigInv w wr.drew a:=⟨h.A,h.M,h.B.drew,h.len,h.bd⟩
theorem DigInv.keep {w wr w':World} {a:List Int} (h:DigInv w wr a) (hb:Below (w.heap.size + 2) wr w'):DigInv w w' a :=
 ⟨(hb.block _ (by omega)).trans h.A,(hb.block _ (by omega)).trans h.M,h.B.trans (hb.mono (by omega)),h.len,h.bd⟩
theorem DigInv.lt {w wr:World} {a:List Int} (h:DigInv w wr a):w.heap.size + 2≤wr.heap.size:=blk_lt h.M
theorem eat_inv {w wr:World} {a:List Int} (h:DigInv w wr a) (x:Int) (hx0 : 0≤x) (hx1:x≤255) :
  Calls Try.prog 117 #[.int .u8 x,.pointer (some ⟨w.heap.size,0,none⟩),.pointer (some ⟨w.heap.size + 1,0,none⟩)] wr fun e w'=>e=.returned (.tuple #[])∧DigInv w w' (dgMix a x)∧OnlyB wr w' w.heap.size :=
 (eat_calls x a h.len h.bd _ _ wr hx0 hx1 h.A h.M (by omega)).mono fun e w' ⟨he,h1,h2⟩=>⟨he,h.to hx0 h1 h2,h2⟩
theorem DigInv.start (w:World):DigInv w ((w.alloc (.cells #[.int .i64 11,.int .i64 22,.int .i64 33,.int .i64 44] 113)).alloc (.cells #[.int .i64 1103515245,.int .i64 69069,.int .i64 1664525,.int .i64 22695477] 113)) [11,22,33,44] :=
 ⟨qv (blk_new w _) _,by have:=blk_new (w.alloc (.cells #[.int .i64 11,.int .i64 22,.int .i64 33,.int .i64 44] 113)) (.cells (nums .i64 mulT).toArray 113 (0,0));simpa [nums,mulT] using this,((Below.refl _ _).alloc (Nat.le_refl _) _).alloc (by simp) _,rfl,by decide⟩
theorem rd_mem {l:List Int} {k:Nat} (h:k < l.length):rd l k ∈ l:=by
 simp[rd,List.getD_eq_getElem?_getD,List.getElem?_eq_getElem h]
theorem take_snoc_rd {l:List Int} {k:Nat} (h:k < l.length):l.take (k + 1)=l.take k ++ [rd l k]:=by
 rw[List.take_succ_eq_append_getElem h];simp[rd,List.getD_eq_getElem?_getD,List.getElem?_eq_getElem h]
theorem dgAll_nil (a:List Int):dgAll a []=a:=rfl
theorem dgAll_snoc (a l:List Int) (x:Int):dgAll a (l ++ [x])=dgMix (dgAll a l) x:=by simp[dgAll]
theorem R_only {α:Type} {d:Kd α} {e base:Nat} {w w':World} {ok:Nat→Prop} {v:Value} {xs:List α} (h:d.R e w base ok v xs) {g:Nat} (ho:OnlyB w w' g) (hg:g < base):d.R e w' base ok v xs :=
 Kd.R_mono (Kd.R_move (Kd.R_bound h) (fun k hk=>ho.block k (by have:=hk.2.1;omega))) (fun _ hk=>hk.1)
theorem R_at {e base n c:Nat} {w:World} {ok:Nat→Prop} {kd:IntKind} {A:Option Addr} {xs:List Int} (h:(Kd.int kd).R e w base ok (.slice A n c) xs) (k:Nat) (hk:k < xs.length) :
  ∃ ad,A=some ad∧w.cell? (ad.add k)=some (.int kd (rd xs k)):=by
 obtain⟨A',c',he,_,hC⟩:=Kd.R_reads h
 injection he with h1 h2 h3
 subst h1
 obtain⟨ad,h4,h5⟩:=Kd.at_int hC k (by omega) (by omega)
 exact⟨ad,h4,by simpa using h5⟩
theorem agg4_index0 (b0 b1 b2 b3:Int) (W:World):(Instr.index 113 (.agg #[.int .i64 b0,.int .i64 b1,.int .i64 b2,.int .i64 b3]) (.int .i64 0)).run Try.prog W=.ok (.int .i64 b0) W:=by kernel_rfl
theorem agg4_index1 (b0 b1 b2 b3:Int) (W:World):(Instr.index 113 (.agg #[.int .i64 b0,.int .i64 b1,.int .i64 b2,.int .i64 b3]) (.int .i64 1)).run Try.prog W=.ok (.int .i64 b1) W:=by kernel_rfl
theorem agg4_index2 (b0 b1 b2 b3:Int) (W:World):(Instr.index 113 (.agg #[.int .i64 b0,.int .i64 b1,.int .i64 b2,.int .i64 b3]) (.int .i64 2)).run Try.prog W=.ok (.int .i64 b2) W:=by kernel_rfl
theorem agg4_index3 (b0 b1 b2 b3:Int) (W:World):(Instr.index 113 (.agg #[.int .i64 b0,.int .i64 b1,.int .i64 b2,.int .i64 b3]) (.int .i64 3)).run Try.prog W=.ok (.int .i64 b3) W:=by kernel_rfl
theorem agg4_index (b0 b1 b2 b3:Int) (k:Nat) (hk:k < 4) (W:World):(Instr.index 113 (.agg #[.int .i64 b0,.int .i64 b1,.int .i64 b2,.int .i64 b3]) (.int .i64 (k:Int))).run Try.prog W=.ok (.int .i64 (rd [b0,b1,b2,b3] k)) W:=by
 rcases k with _|_|_|_|k
 ·exact agg4_index0 b0 b1 b2 b3 W
 ·exact agg4_index1 b0 b1 b2 b3 W
 ·exact agg4_index2 b0 b1 b2 b3 W
 ·exact agg4_index3 b0 b1 b2 b3 W
 ·omega
set_option maxHeartbeats 1000000 in
theorem xk.calls (A0:Option Addr) (c0:Nat) (l0:List Int) (r:List Int) (w:World) (hr0:Kd.C (Kd.int .u8) w A0 l0.length l0) (hc0:l0.length≤c0) (h:xk.f l0=some r) :
  Calls Try.prog 77 #[.slice A0 l0.length c0] w fun e w'=>∃ v0_:Value,e=.returned (v0_)∧Kd.R (Kd.int .u8) 5 w' w.heap.size (fun _=>True) v0_ r∧Below w.heap.size w w':=by
 have HR0:=U.mk hr0
 have HC0:=U.mk hc0
 clear hr0 hc0
 unfold xk.f at h
 by_cases hb:isBytes l0
 case neg=>rw[if_neg hb] at h;cases h
 rw[if_pos hb] at h
 have HBY:=U.mk hb
 clear hb
 by_cases hbig:(l0.length:Int) > 20000
 ·rw[if_pos hbig] at h
  cases h
 ·rw[if_neg hbig] at h
  obtain rfl:=Option.some.inj h
  clear h
  go_enter Try.func77,Try.ntmps77
  go_wp2
  have HI:=U.mk (DigInv.start w)
  generalize ((w.alloc (.cells #[.int .i64 11,.int .i64 22,.int .i64 33,.int .i64 44] 113)).alloc (.cells #[.int .i64 1103515245,.int .i64 69069,.int .i64 1664525,.int .i64 22695477] 113))=w2 at HI ⊢
  go_loopw [21] (fun i wr=>∃ k:Nat,k≤l0.length∧i=.int .i64 k∧U (DigInv w wr (dgAll [11,22,33,44] (l0.take k)))) (fun i _=>l0.length - (intOf i).toNat)
  case atStart=>exact⟨0,by omega,rfl,HI⟩
  case round =>
   clear HI
   obtain⟨k,hk,rfl,HW⟩:=hrel
   by_cases hlt:k < l0.length
   ·obtain⟨ad,rfl,hcell⟩:=Kd.at_int (Kd.C_below HR0.out HW.out.B) k (by omega) (by omega)
    have hby:=HBY.out (rd l0 k) (rd_mem hlt)
    obtain⟨x,ex⟩ : ∃ x,x=rd l0 k:=⟨_,rfl⟩
    rw[Int.toNat_natCast] at hcell
    rw[← ex] at hcell hby
    have EX:=U.mk ex
    clear ex
    go_wp2_with (go_at_call 117;refine(eat_inv HW.out x hby.1 hby.2).mono ?_;rintro e w' ⟨rfl,HN,_⟩;replace HN:=U.mk HN)
    go_roundw
    case rel=>exact⟨k + 1,by omega,by go_num,⟨by rw[take_snoc_rd hlt,← EX.out,dgAll_snoc];exact HN.out⟩⟩
    case measure=>simp[intOf];omega
   ·obtain rfl:k=l0.length:=by omega
    rw[List.take_length] at HW
    clear hlt hk
    have HX:=HW
    go_wp2_with (go_at_call 79;refine(qqw.calls (l0.length:Int) (yb l0.length) _ rfl).mono ?_;rintro e w1 ⟨v1,rfl,HV,HB1⟩;obtain⟨A1,c1,rfl⟩:=Kd.R_slice HV;replace HW:=U.mk (HW.out.keep (HB1.mono HW.out.lt));replace HV:=U.mk (Kd.R_lower HV (base':=w.heap.size + 2) (DigInv.lt HX.out));clear HB1)
    clear HX
    have HYB:=U.mk (yb_bytes l0.length)
    have hyl:(yb (l0.length:Int)).length=4:=rfl
    replace hyl:=U.mk hyl
    go_loopw [33] (fun i wr=>∃ k:Nat,k≤(yb l0.length).length∧i=.int .i64 k∧U (DigInv w wr (dgAll (dgAll [11,22,33,44] l0) ((yb l0.length).take k))∧Kd.R (Kd.int .u8) 5 wr (w.heap.size + 2) (fun _=>True) (.slice A1 (yb (l0.length:Int)).length c1) (yb l0.length))) (fun i _=>(yb l0.length).length - (intOf i).toNat)
    case atStart=>exact⟨0,by omega,rfl,⟨HW.out,HV.out⟩⟩
    case round =>
     clear HW HV
     obtain⟨k,hk,rfl,HW⟩:=hrel
     by_cases hlt:k < (yb l0.length).length
     ·obtain⟨ad,rfl,hcell⟩:=R_at HW.out.2 k hlt
      have hby:=HYB.out (rd (yb l0.length) k) (rd_mem hlt)
      obtain⟨x,ex⟩ : ∃ x,x=rd (yb l0.length) k:=⟨_,rfl⟩
      rw[← ex] at hcell hby
      have EX:=U.mk ex
      clear ex
      have hyl5:(yb (l0.length:Int)).length≤4:=Nat.le_of_eq hyl.out
      go_wp2_with (go_at_call 117;refine(eat_inv HW.out.1 x hby.1 hby.2).mono ?_;rintro e w' ⟨rfl,HN,HO⟩;replace HN:=U.mk HN;replace HO:=U.mk (R_only HW.out.2 HO (by omega)))
      go_roundw
      case rel=>exact⟨k + 1,by omega,by go_num,⟨by rw[take_snoc_rd hlt,← EX.out,dgAll_snoc];exact HN.out,HO.out⟩⟩
      case measure=>simp[intOf];omega
     ·obtain rfl:k=(yb l0.length).length:=by omega
      rw[List.take_length] at HW
      clear hlt hk
      replace HW:=U.mk HW.out.1
      go_wp2
      go_loopw [41] (fun i wr=>∃ k:Nat,k≤8∧i=.int .i64 k∧U (DigInv w wr (dgAll (dgAll (dgAll [11,22,33,44] l0) (yb l0.length)) (List.replicate k 0)))) (fun i _=>8 - (intOf i).toNat)
      case atStart=>exact⟨0,by omega,rfl,⟨by rw[List.replicate_zero,dgAll_nil];exact HW.out⟩⟩
      case round =>
       clear HW
       obtain⟨k,hk,rfl,HW⟩:=hrel
       by_cases hlt:k < 8
       ·go_wp2_with (go_at_call 117;refine(eat_inv HW.out 0 (by omega) (by omega)).mono ?_;rintro e w' ⟨rfl,HN,HO⟩;clear HO;replace HN:=U.mk HN)
        go_roundw
        case rel=>exact⟨k + 1,by omega,by go_num,⟨by rw[List.replicate_succ',dgAll_snoc];exact HN.out⟩⟩
        case measure=>simp[intOf];omega
       ·obtain rfl:k=8:=by omega
        rw[show((8:Nat):Int)=8 from rfl]
        clear hlt hk
        replace HW:U (DigInv w wr (dgS l0)):=HW
        obtain⟨b0,b1,b2,b3,eb⟩ : ∃ b0 b1 b2 b3,dgS l0=[b0,b1,b2,b3]:=by
         have:=HW.out.len
         match dgS l0,this with
         | [b0,b1,b2,b3],_=>exact⟨b0,b1,b2,b3,rfl⟩
        have hb0:wr.cell? ⟨w.heap.size,0,none⟩ = some (.int .i64 b0):=by rw[qj HW.out.A,eb];rfl
        have hb1:wr.cell? ⟨w.heap.size,1,none⟩ = some (.int .i64 b1):=by rw[qj HW.out.A,eb];rfl
        have hb2:wr.cell? ⟨w.heap.size,2,none⟩ = some (.int .i64 b2):=by rw[qj HW.out.A,eb];rfl
        have hb3:wr.cell? ⟨w.heap.size,3,none⟩ = some (.int .i64 b3):=by rw[qj HW.out.A,eb];rfl
        replace eb:=U.mk eb
        go_wp2
        replace HW:=U.mk HW.out.B
        clear hb0 hb1 hb2 hb3 hbig
        go_loopw [47,10] (fun i v W=>∃ (k:Nat) (ys:List Int),k≤4∧i=.int .i64 k∧U (ys=([b0,b1,b2,b3].take k).flatMap yb∧ys.length=4 * k∧Kd.R (Kd.int .u8) 5 W w.heap.size (fun _=>True) v ys∧Below w.heap.size w W)) (fun i _ _=>4 - (intOf i).toNat)
        case atStart=>exact⟨0,[],by omega,rfl,⟨rfl,by simp,Kd.R_nil _ _ _ _ _,HW.out⟩⟩
        case round =>
         clear HW
         obtain⟨k,ys,hk,rfl,HW⟩:=hrel
         obtain⟨A2,c2,rfl⟩:=Kd.R_slice HW.out.2.2.1
         by_cases hlt:k < 4
         ·have hi:=agg4_index b0 b1 b2 b3 k hlt
          obtain⟨q,eq⟩ : ∃ q,q=rd [b0,b1,b2,b3] k:=⟨_,rfl⟩
          rw[← eq] at hi
          replace eq:=U.mk eq
          obtain⟨zs,ez⟩ : ∃ zs,zs=yb q:=⟨_,rfl⟩
          have hz:U (qqw.f q=some zs∧zs.length=4):=⟨by rw[ez];rfl,by rw[ez];rfl⟩
          replace ez:=U.mk ez
          go_wp2_with (first|(go_at_call 79;refine(qqw.calls q zs _ hz.out.1).mono ?_;rintro e w1 ⟨v1,rfl,HV,HB1⟩;obtain⟨A3,c3,rfl,hc3,hC3⟩:=Kd.R_reads HV;have HW2:=U.mk (⟨Kd.R_below HW.out.2.2.1 HB1,zz HW.out.2.2.2 HB1⟩ : _∧_);replace HV:=U.mk hC3;clear hC3 HB1)|((with_reducible refine gate_builtin (b:=.append) (xs:=#[.tmp 50,.tmp 52]) rfl ?_);at_builtin;refine Kd.R_append_row (Value.int .u8) 0 (w0:=w) w.heap.size rfl (.tmp 50) (.tmp 52) 22 5 (.int .u8 0) 1 rfl Try.underlying22 info5 rfl (by decide) _ ys zs _ _ _ (fun _=>True) rfl rfl (fun _ _=>trivial) HW2.out.1 HV.out HW2.out.2 HW2.out.2.size ?aL ?_;(case aL=>have h1:=HW.out.2.1;have h2:=hz.out.2;omega);intro v1 w3 hr hb hg hat;replace hr:=U.mk hr;replace hb:=U.mk hb;clear hg hat))
          go_roundw
          case rel=>exact⟨k + 1,ys ++ zs,by omega,by go_num,⟨by rw[take_snoc_rd (by simpa using hlt),← eq.out,List.flatMap_append,← HW.out.1,ez.out];simp,by have h1:=HW.out.2.1;have h2:=hz.out.2;rw[List.length_append];omega,hr.out,hb.out⟩⟩
          case measure=>simp[intOf];omega
         ·obtain rfl:k=4:=by omega
          go_wp2
          go_ret
          refine⟨_,rfl,?_,HW.out.2.2.2⟩
          have e1:=HW.out.1
          rw[List.take_of_length_le (by simp)] at e1
          have e2:ys=dg l0:=by rw[e1,dg,eb.out]
          rw[← e2]
          exact HW.out.2.2.1
end Go.Proofs.Ytipdkendfcopiaa.Pr
namespace Go.Proofs.Ytipdkendfcopiaa.Pr
open Go.RowKit Go.Proofs.YtipdkendfcopiaaW.PrintWords Go.Proofs.YtipdkendfcopiaaW.PrintLast Go.Proofs.YtipdkendfcopiaaW.PrintMore
attribute [local go_sem] max2_int min2_int max_two min_two max_three min_three max_four min_four
set_option linter.unusedVariables false
set_option linter.unusedSimpArgs false
def qzk.f (l0:List Int):Option (Int):=if (l0.length:Int) < 4 then(some 0) else(if 0 < (l0.length:Int) then(if 1 < (l0.length:Int) then(if 2 < (l0.length:Int) then(if 3 < (l0.length:Int) then(some (Go.bits .or .i64 (Go.bits .or .i64 (Go.bits .or .i64 (wrap64 (rd l0 0)) (wrap64 ((wrap64 (rd l0 1)) * 256))) (wrap64 ((wrap64 (rd l0 2)) * 65536))) (wrap64 ((wrap64 (rd l0 3)) * 16777216)))) else(none)) else(none)) else(none)) else(none))
theorem qzk.calls (A0:Option Addr) (c0:Nat) (l0:List Int) (r:Int) (w:World) (hr0:Kd.C (Kd.int .u8) w A0 l0.length l0) (hc0:l0.length≤c0) (h:qzk.f l0=some r) :
  Calls Try.prog 130 #[.slice A0 l0.length c0] w fun e w'=>e=.returned (.int .i64 r)∧Drawn0 w w':=by
 have HR0:=U.mk hr0
 have HC0:=U.mk hc0
 clear hr0 hc0
 unfold qzk.f at h
 have H:=h
 clear h
 by_cases c2:(l0.length:Int) < 4
 ·rw[if_pos c2] at H
  have c2b0:decide ((l0.length:Int) < 4)=true:=decide_eq_true c2
  have c2b1:decide (l0.length < 4)=true:=decide_eq_true (by omega)
  clear c2
  obtain rfl:=Option.some.inj H
  go_enter Try.func130,Try.ntmps130
  go_wp2
  repeat(go_quiet (fail);try go_wp2)
  go_ret
  exact⟨by first|rfl|(simp;done)|(simp[*];done),by repeat(first|exact Drawn0.refl _|apply Drawn0.step)⟩
 ·rw[if_neg c2] at H
  have c2b0:decide ((l0.length:Int) < 4)=false:=decide_eq_false c2
  have c2b1:decide (l0.length < 4)=false:=decide_eq_false (by omega)
  clear c2
  by_cases c3 : 0 < (l0.length:Int)
  ·rw[if_pos c3] at H
   have c3b0:decide (0 < (l0.length:Int))=true:=decide_eq_true c3
   have c3b1:decide (0 < l0.length)=true:=decide_eq_true (by omega)
   clear c3
   by_cases c4 : 1 < (l0.length:Int)
   ·rw[if_pos c4] at H
    have c4b0:decide (1 < (l0.length:Int))=true:=decide_eq_true c4
    have c4b1:decide (1 < l0.length)=true:=decide_eq_true (by omega)
    clear c4
    by_cases c5 : 2 < (l0.length:Int)
    ·rw[if_pos c5] at H
     have c5b0:decide (2 < (l0.length:Int))=true:=decide_eq_true c5
     have c5b1:decide (2 < l0.length)=true:=decide_eq_true (by omega)
     clear c5
     by_cases c6 : 3 < (l0.length:Int)
     ·rw[if_pos c6] at H
      have c6b0:decide (3 < (l0.length:Int))=true:=decide_eq_true c6
      have c6b1:decide (3 < l0.length)=true:=decide_eq_true (by omega)
      clear c6
      obtain rfl:=Option.some.inj H
      have p101 : 0≤(0:Int):=(by omega)
      have q101 : 0 < (l0.length:Int):=of_decide_eq_true (by assumption)
      obtain⟨ad101,e101,hx101_0⟩:=Kd.at_int HR0.out 0 p101 q101
      cases e101
      have qi101:(0 < l0.length)=True:=eq_true (by omega)
      (try rw[show((0:Int)).toNat=0 from rfl] at hx101_0)
      (try rw[Addr.add_zero'] at hx101_0)
      replace p101:=eq_true p101
      replace q101:=eq_true q101
      have p102 : 0≤(1:Int):=(by omega)
      have q102 : 1 < (l0.length:Int):=of_decide_eq_true (by assumption)
      obtain⟨ad102,e102,hx102_0⟩:=Kd.at_int HR0.out 1 p102 q102
      obtain rfl:ad101=ad102:=(by injection e102)
      (try simp only[show(1:Int).toNat=1 from rfl,Nat.reduceMul,Nat.reduceEqDiff,Go.Addr.add,↓reduceIte] at hx102_0)
      have qi102:(1 < l0.length)=True:=eq_true (by omega)
      (try rw[show((1:Int)).toNat=1 from rfl] at hx102_0)
      replace p102:=eq_true p102
      replace q102:=eq_true q102
      have p103 : 0≤(2:Int):=(by omega)
      have q103 : 2 < (l0.length:Int):=of_decide_eq_true (by assumption)
      obtain⟨ad103,e103,hx103_0⟩:=Kd.at_int HR0.out 2 p103 q103
      obtain rfl:ad101=ad103:=(by injection e103)
      (try simp only[show(2:Int).toNat=2 from rfl,Nat.reduceMul,Nat.reduceEqDiff,Go.Addr.add,↓reduceIte] at hx103_0)
      have qi103:(2 < l0.length)=True:=eq_true (by omega)
      (try rw[show((2:Int)).toNat=2 from rfl] at hx103_0)
      replace p103:=eq_true p103
      replace q103:=eq_true q103
      have p104 : 0≤(3:Int):=(by omega)
      have q104 : 3 < (l0.length:Int):=of_decide_eq_true (by assumption)
      obtain⟨ad104,e104,hx104_0⟩:=Kd.at_int HR0.out 3 p104 q104
      obtain rfl:ad101=ad104:=(by injection e104)
      (try simp only[show(3:Int).toNat=3 from rfl,Nat.reduceMul,Nat.reduceEqDiff,Go.Addr.add,↓reduceIte] at hx104_0)
      have qi104:(3 < l0.length)=True:=eq_true (by omega)
      (try rw[show((3:Int)).toNat=3 from rfl] at hx104_0)
      replace p104:=eq_true p104
      replace q104:=eq_true q104
      go_enter Try.func130,Try.ntmps130
      go_wp2
      repeat(go_quiet (fail);try go_wp2)
      go_ret
      exact⟨by first|rfl|(simp;done)|(simp[*];done),by repeat(first|exact Drawn0.refl _|apply Drawn0.step)⟩
     ·rw[if_neg c6] at H
      exact absurd H (by simp)
    ·rw[if_neg c5] at H
     exact absurd H (by simp)
   ·rw[if_neg c4] at H
    exact absurd H (by simp)
  ·rw[if_neg c3] at H
   exact absurd H (by simp)
end Go.Proofs.Ytipdkendfcopiaa.Pr
namespace Go.Proofs.Ytipdkendfcopiaa.Pr
open Go.RowKit Go.Proofs.YtipdkendfcopiaaW.PrintWords Go.Proofs.YtipdkendfcopiaaW.PrintLast Go.Proofs.YtipdkendfcopiaaW.PrintMore
attribute [local go_sem] max2_int min2_int max_two min_two max_three min_three max_four min_four
set_option linter.unusedVariables false
set_option linter.unusedSimpArgs false
def qqx.f (a0:Int) (l1:List Int):Option (Int):=(qqw.f a0).bind fun t101=>((xk.f l1).bind fun t104=>(if t101.length + t104.length < 140737488355328 then((xk.f (t101 ++ t104)).bind fun t110=>((qzk.f t110).bind fun t113=>(some (Int.tmod t113 1073741789)))) else(none)))
theorem qqx.calls (a0:Int) (A1:Option Addr) (c1:Nat) (l1:List Int) (r:Int) (w:World) (hr1:Kd.C (Kd.int .u8) w A1 l1.length l1) (hc1:l1.length≤c1) (h:qqx.f a0 l1=some r) :
  Calls Try.prog 128 #[.int .i64 a0,.slice A1 l1.length c1] w fun e w'=>e=.returned (.int .i64 r)∧Below w.heap.size w w':=by
 have HR1:=U.mk hr1
 have HC1:=U.mk hc1
 clear hr1 hc1
 have HB:=U.mk (Below.refl w.heap.size w)
 unfold qqx.f at h
 have H:=h
 clear h
 replace H:=jq8.mp H
 obtain⟨t101,A30,H⟩:=H
 try dsimp only at H
 have A3:=U.mk A30
 clear A30
 replace H:=jq8.mp H
 obtain⟨t104,A40,H⟩:=H
 try dsimp only at H
 have A4:=U.mk A40
 clear A40
 by_cases c5:t101.length + t104.length < 140737488355328
 ·rw[if_pos c5] at H
  have LMc5:=U.mk c5
  clear c5
  obtain⟨y107,hy107⟩ : ∃ y_:List Int,y_=(t101 ++ t104):=⟨_,rfl⟩
  replace H:((xk.f y107).bind fun t110=>((qzk.f t110).bind fun t113=>(some (Int.tmod t113 1073741789))))=some r:=by first|(rw[hy107];with_reducible exact H)|(have H2_:=(Option.bind_some _ _).symm.trans H;rw[hy107];with_reducible exact H2_)|(have H2_:=(Option.bind_some _ _).symm.trans H;with_reducible exact H2_)|with_reducible exact H|(rw[hy107];exact H)|exact H
  have Ny107:=U.mk hy107
  clear hy107
  replace H:=jq8.mp H
  obtain⟨t110,A60,H⟩:=H
  try dsimp only at H
  have A6:=U.mk A60
  clear A60
  replace H:=jq8.mp H
  obtain⟨t113,A70,H⟩:=H
  try dsimp only at H
  have A7:=U.mk A70
  clear A70
  obtain rfl:=Option.some.inj H
  go_enter Try.func128,Try.ntmps128
  go_wp2_with (first|((with_reducible refine jw (f:=79) rfl ?_);refine goesL_ (some 6) rfl rfl Try.func79 (by kernel_rfl) rfl #[.int .i64 a0] rfl (by(try simp only[jq0,jq1,jq2]);first|done|rfl|(simp only[jq3,jq4];rfl)) ?_;(with_reducible refine(qqw.calls a0 t101 _ A3.out).mono ?_);rintro e w8 ⟨v102,rfl,ho0,hb⟩;refine⟨_,rfl,?_⟩;have HO103:=U.mk (Kd.R_lower ho0 (zj (by solve_by_elim only[HB.out,G,J,qq])));replace HB:=U.mk (zz (by solve_by_elim only[HB.out,G,J,qq]) hb);(try clear hb ho0))|((with_reducible refine jw (f:=77) rfl ?_);refine goesL_ (some 8) rfl rfl Try.func77 (by kernel_rfl) rfl #[.slice A1 l1.length c1] rfl (by(try simp only[jq0,jq1,jq2]);first|done|rfl|(simp only[jq3,jq4];rfl)) ?_;(with_reducible refine(xk.calls _ _ l1 t104 _ ?side1 ?side2 A4.out).mono ?_);(case side1=>solve_by_elim only[(Kd.C_below HR1.out HB.out),Kd.C_alloc,Kd.C_drewN,Kd.C_drew]);(case side2=>exact HC1.out);rintro e w9 ⟨v105,rfl,ho0,hb⟩;refine⟨_,rfl,?_⟩;have HO106:=U.mk (Kd.R_lower (Kd.R_new' ho0 (Kd.R_lt (by solve_by_elim only[HO103.out,Kd.zv,Kd.zk,Kd.zw]))) (zj (by solve_by_elim only[HB.out,G,J,qq])));replace HO103:=U.mk (Kd.R_elder' (by solve_by_elim only[HO103.out,Kd.zv,Kd.zk,Kd.zw]) (Kd.R_base ho0) hb);replace HB:=U.mk (zz (by solve_by_elim only[HB.out,G,J,qq]) hb);(try clear hb ho0);obtain⟨Ao11,co11,eo11⟩:=Kd.R_slice HO106.out;subst eo11)|((with_reducible refine gate_builtin (b:=.append) (xs:=#[.tmp 6,.tmp 8]) rfl ?_);at_builtin;refine Kd.R_append_rows (Kd.int .u8) (w0:=w) w.heap.size rfl (.tmp 6) (.tmp 8) 22 5 (.int .u8 0) 1 rfl Try.underlying22 info5 rfl (by decide) (by omega) v102 t101 t104 _ _ _ (fun k_=>some k_≠(.slice Ao11 t104.length co11:Value).ownBlock) (fun _=>False) rfl rfl ?aO ?aR (fun _ _ h=>h) (fun _ h=>h.elim) ?aF ?aB ?aS ?aL ?_;(case aR=>repeat(first|exact(Kd.R_reads' HO106.out).2.2|(with_reducible refine Kd.C_alloc ?_ _)|(with_reducible refine Kd.C_drewN ?_ _)|(with_reducible refine Kd.C_drew ?_)));(case aB=>exact(by solve_by_elim only[HB.out,G,J,qq]));(case aF=>exact(fun k_ hk=>Kd.fresh' (Kd.R_lt (by solve_by_elim only[HO106.out,Kd.zv,Kd.zk,Kd.zw])) k_ hk));(case aO=>exact(by(with_reducible repeat(first|apply Kd.zv|apply Kd.zk|apply Kd.zw));exact Kd.R_mono HO103.out (fun _ hk=>hk.2)));(case aS=>exact(zj (by solve_by_elim only[HB.out,G,J,qq])));(case aL=>have:=LMc5.out;omega);intro v108 w10 ho hb hg hat;rw[← Ny107.out] at ho;replace HO106:=U.mk (Kd.R_after (ok:=(fun _=>True)) (by solve_by_elim only[HO106.out,Kd.zv,Kd.zk,Kd.zw]) hg hat);replace HB:=U.mk (hb);have HO109:=U.mk (ho);clear HO103;clear ho hb hg hat;obtain⟨Ao12,co12,eo12⟩:=Kd.R_slice HO109.out;subst eo12)|((with_reducible refine jw (f:=77) rfl ?_);refine goesL_ (some 10) rfl rfl Try.func77 (by kernel_rfl) rfl #[.slice Ao12 y107.length co12] rfl (by(try simp only[jq0,jq1,jq2]);first|done|rfl|(simp only[jq3,jq4];rfl)) ?_;(with_reducible refine(xk.calls _ _ y107 t110 _ ?side1 ?side2 A6.out).mono ?_);(case side1=>solve_by_elim only[(Kd.R_reads' HO109.out).2.2,Kd.C_alloc,Kd.C_drewN,Kd.C_drew]);(case side2=>exact(Kd.R_reads' HO109.out).2.1);rintro e w13 ⟨v111,rfl,ho0,hb⟩;refine⟨_,rfl,?_⟩;have HO112:=U.mk (Kd.R_lower (Kd.R_new' (Kd.R_new' ho0 (Kd.R_lt (by solve_by_elim only[HO106.out,Kd.zv,Kd.zk,Kd.zw]))) (Kd.R_lt (by solve_by_elim only[HO109.out,Kd.zv,Kd.zk,Kd.zw]))) (zj (by solve_by_elim only[HB.out,G,J,qq])));replace HO106:=U.mk (Kd.R_elder' (by solve_by_elim only[HO106.out,Kd.zv,Kd.zk,Kd.zw]) (Kd.R_base ho0) hb);replace HO109:=U.mk (Kd.R_elder' (by solve_by_elim only[HO109.out,Kd.zv,Kd.zk,Kd.zw]) (Kd.R_base ho0) hb);replace HB:=U.mk (zz (by solve_by_elim only[HB.out,G,J,qq]) hb);(try clear hb ho0);obtain⟨Ao14,co14,eo14⟩:=Kd.R_slice HO112.out;subst eo14)|((with_reducible refine jw (f:=130) rfl ?_);refine goesL_ (some 11) rfl rfl Try.func130 (by kernel_rfl) rfl #[.slice Ao14 t110.length co14] rfl (by(try simp only[jq0,jq1,jq2]);first|done|rfl|(simp only[jq3,jq4];rfl)) ?_;(with_reducible refine(qzk.calls _ _ t110 t113 _ ?side1 ?side2 A7.out).mono ?_);(case side1=>solve_by_elim only[(Kd.R_reads' HO112.out).2.2,Kd.C_alloc,Kd.C_drewN,Kd.C_drew]);(case side2=>exact(Kd.R_reads' HO112.out).2.1);rintro e w' ⟨rfl,⟨nd,rfl⟩⟩;refine⟨_,rfl,?_⟩))
  go_ret
  exact⟨by first|rfl|(simp[*,jv,jk] <;> rfl),by repeat(first|(with_reducible first|exact HB.out|apply G|apply J|apply qq)|exact HB.out)⟩
 ·rw[if_neg c5] at H
  exact absurd H (by simp)
end Go.Proofs.Ytipdkendfcopiaa.Pr
namespace Go.Proofs.Ytipdkendfcopiaa.Pr
open Go.RowKit Go.Proofs.YtipdkendfcopiaaW.PrintWords Go.Proofs.YtipdkendfcopiaaW.PrintLast Go.Proofs.YtipdkendfcopiaaW.PrintMore
attribute [local go_sem] max2_int min2_int max_two min_two max_three min_three max_four min_four
set_option linter.unusedVariables false
set_option linter.unusedSimpArgs false
def qqk.j0:Nat→Int→List Int→Bool→Int→Int→Option (Bool)
 | 0,_,_,_,_,_=>none
 | k + 1,x0,x1,x42,x102000,x102001=>if x42=true then(some false) else((qzv.f k 4 x102001 2147483579).bind fun t103=>((qqx.f x102000 x1).bind fun t104=>((qzv.f k x0 t104 2147483579).bind fun t105=>(some (t103 == (Int.tmod (wrap64 (x102000 * t105)) 2147483579))))))
def qqk.f (k:Nat) (a0:Int) (l1:List Int) (a2_0:Int) (a2_1:Int):Option (Bool):=if (l1.length:Int) > 20000 then(qqk.j0 k a0 l1 true a2_0 a2_1) else(if a0 < 2 then(qqk.j0 k a0 l1 true a2_0 a2_1) else(if a0 ≥ 2147483579 then(qqk.j0 k a0 l1 true a2_0 a2_1) else((qzv.f k a0 1073741789 2147483579).bind fun t102=>(if t102=1 then(if a2_0 < 1 then(qqk.j0 k a0 l1 true a2_0 a2_1) else(if a2_0 ≥ 2147483579 then(qqk.j0 k a0 l1 true a2_0 a2_1) else(if a2_1 < 0 then(qqk.j0 k a0 l1 true a2_0 a2_1) else(qqk.j0 k a0 l1 (decide (a2_1 ≥ 1073741789)) a2_0 a2_1)))) else(qqk.j0 k a0 l1 true a2_0 a2_1)))))
def qqk.T3:Bool × List (List Nat × List Nat):=(true,[([],[]),([0],[0]),([1],[1]),([],[]),([3],[3]),([],[]),([],[]),([6],[6]),([],[]),([7,8,2],[7,8]),([5,9,9],[5,9]),([4,10],[4,10]),([11],[11]),([2,12],[2,12]),([13,10,0,1,2,3,4,5,6,7,8,9,10,11,12,13],[13])])
def qqk.B3:List Nat:=[0,1,3,0,8,0,0,64,0,455,999,2047,4095,8191,16383]
theorem qqk.tab3:rtab .any (opsOf Try.f100 3)=qqk.T3:=by kernel_rfl
theorem qqk.bits3:waitsOk qqk.T3.2 qqk.B3=true:=by kernel_rfl
theorem qqk.calls (k:Nat) (a0:Int) (A1:Option Addr) (c1:Nat) (l1:List Int) (a2_0:Int) (a2_1:Int) (r:Bool) (w:World) (hr1:Kd.C (Kd.int .u8) w A1 l1.length l1) (hc1:l1.length≤c1) (h:qqk.f k a0 l1 a2_0 a2_1=some r) :
  Calls Try.prog 100 #[.int .i64 a0,.slice A1 l1.length c1,.agg #[.int .i64 a2_0,.int .i64 a2_1]] w fun e w'=>e=.returned (.bool r)∧Below w.heap.size w w':=by
 have hu59:=Try.underlying59
 have HR1:=U.mk hr1
 have HC1:=U.mk hc1
 clear hr1 hc1
 have HB:=U.mk (Below.refl w.heap.size w)
 unfold qqk.f at h
 have H:=h
 clear h
 have HC4:=U.mk H
 clear H
 go_enter Try.func100,Try.ntmps100
 go_upto_region 1 with (first|((with_reducible refine gate_dst (N:=5) rfl ?_);refine box_event ?hg (N:=5) ?hd (cs:=#[.int .i64 a2_0,.int .i64 a2_1]) (t:=59) ?hr ?_;(case hd=>rfl);(case hg=>rfl);(case hr=>first|(go_simp;done)|(go_simp;rfl));intro gb101 hg w5 hbox hb;have BK101:=U.mk (hbox);have GW101:=U.mk ((by rw[hg];exact(zj (by solve_by_elim only[HB.out,G,J,qq])):w.heap.size≤gb101));have GE101:=U.mk ((by rw[hg];exact(zj (by solve_by_elim only[HB.out,G,J,qq])):w.heap.size≤gb101));replace HB:=U.mk (zz (by solve_by_elim only[HB.out,G,J,qq]) hb);clear hb hbox hg))
 (try simp only[Act.put,jq5,jq6,jq7])
 go_cut [42] (fun v42 wc=>∃ (kq:Nat) (x42_3:Bool),v42=.bool x42_3∧U (qqk.j0 kq a0 l1 x42_3 a2_0 a2_1=some r)∧U (kq≤k)∧U (wc.heap[gb101]? = some (.cells #[.int .i64 a2_0,.int .i64 a2_1] 59 (0,0)))∧U (Below w.heap.size w wc))
 case first =>
  have H:=HC4.out
  clear HC4
  by_cases c6:(l1.length:Int) > 20000
  ·rw[if_pos c6] at H
   have c6b0:decide (20000 < (l1.length:Int))=true:=decide_eq_true c6
   have c6b1:decide (20000 < l1.length)=true:=decide_eq_true (by omega)
   clear c6
   (first|rw[c6b0]|(simp only[i64_w,i32_w];rw[c6b0])|skip)
   have H':=U.mk H
   clear H
   go_wp2
   go_meet
   case rel=>exact⟨_,(true),(by first|rfl|(simp;done)|(simp[*];done)),H',⟨by first|omega|exact Nat.le_refl _⟩,⟨by(with_reducible repeat(first|refine qw ?_ _|refine qx ?_|refine qv ?_ _));exact BK101.out⟩,⟨by repeat(first|(with_reducible first|exact HB.out|apply G|apply J|apply qq|refine qk ?_ GE101.out)|exact HB.out)⟩⟩
  ·rw[if_neg c6] at H
   have c6b0:decide (20000 < (l1.length:Int))=false:=decide_eq_false c6
   have c6b1:decide (20000 < l1.length)=false:=decide_eq_false (by omega)
   clear c6
   (first|rw[c6b0]|(simp only[i64_w,i32_w];rw[c6b0])|skip)
   by_cases c7:a0 < 2
   ·rw[if_pos c7] at H
    have c7b0:decide (a0 < 2)=true:=decide_eq_true c7
    clear c7
    have H':=U.mk H
    clear H
    go_wp2
    go_meet
    case rel=>exact⟨_,(true),(by first|rfl|(simp;done)|(simp[*];done)),H',⟨by first|omega|exact Nat.le_refl _⟩,⟨by(with_reducible repeat(first|refine qw ?_ _|refine qx ?_|refine qv ?_ _));exact BK101.out⟩,⟨by repeat(first|(with_reducible first|exact HB.out|apply G|apply J|apply qq|refine qk ?_ GE101.out)|exact HB.out)⟩⟩
   ·rw[if_neg c7] at H
    have c7b0:decide (a0 < 2)=false:=decide_eq_false c7
    clear c7
    by_cases c8:a0 ≥ 2147483579
    ·rw[if_pos c8] at H
     have c8b0:decide (2147483579≤a0)=true:=decide_eq_true c8
     clear c8
     have H':=U.mk H
     clear H
     go_wp2
     go_meet
     case rel=>exact⟨_,(true),(by first|rfl|(simp;done)|(simp[*];done)),H',⟨by first|omega|exact Nat.le_refl _⟩,⟨by(with_reducible repeat(first|refine qw ?_ _|refine qx ?_|refine qv ?_ _));exact BK101.out⟩,⟨by repeat(first|(with_reducible first|exact HB.out|apply G|apply J|apply qq|refine qk ?_ GE101.out)|exact HB.out)⟩⟩
    ·rw[if_neg c8] at H
     have c8b0:decide (2147483579≤a0)=false:=decide_eq_false c8
     clear c8
     replace H:=jq8.mp H
     obtain⟨t102,A90,H⟩:=H
     try dsimp only at H
     have A9:=U.mk A90
     clear A90
     by_cases c10:t102=1
     ·rw[if_pos c10] at H
      have c10b0:(t102 == 1)=true:=beq_iff_eq.mpr c10
      have c10b1:(t102 != 1)=false:=bne_eq_false_iff_eq.mpr c10
      clear c10
      by_cases c11:a2_0 < 1
      ·rw[if_pos c11] at H
       have c11b0:decide (a2_0 < 1)=true:=decide_eq_true c11
       clear c11
       have H':=U.mk H
       clear H
       go_wp2_with (first|(go_at_call 127;(with_reducible refine(qzv.calls k a0 1073741789 2147483579 t102 _ A9.out).mono ?_);rintro e w' ⟨rfl,⟨nd,rfl⟩⟩;have hcz12_0:w5.cell? ⟨gb101,0,none⟩ = some (.int .i64 a2_0):=(qj BK101.out 0).trans rfl;have hcz12_1:w5.cell? ⟨gb101,1,none⟩ = some (.int .i64 a2_1):=(qj BK101.out 1).trans rfl;have hfz12_0:=qz BK101.out 0;have hfz12_1:=qz BK101.out 1))
       go_meet
       case rel=>exact⟨_,(true),(by first|rfl|(simp;done)|(simp[*];done)),H',⟨by first|omega|exact Nat.le_refl _⟩,⟨by(with_reducible repeat(first|refine qw ?_ _|refine qx ?_|refine qv ?_ _));exact BK101.out⟩,⟨by repeat(first|(with_reducible first|exact HB.out|apply G|apply J|apply qq|refine qk ?_ GE101.out)|exact HB.out)⟩⟩
      ·rw[if_neg c11] at H
       have c11b0:decide (a2_0 < 1)=false:=decide_eq_false c11
       clear c11
       by_cases c13:a2_0 ≥ 2147483579
       ·rw[if_pos c13] at H
        have c13b0:decide (2147483579≤a2_0)=true:=decide_eq_true c13
        clear c13
        have H':=U.mk H
        clear H
        go_wp2_with (first|(go_at_call 127;(with_reducible refine(qzv.calls k a0 1073741789 2147483579 t102 _ A9.out).mono ?_);rintro e w' ⟨rfl,⟨nd,rfl⟩⟩;have hcz14_0:w5.cell? ⟨gb101,0,none⟩ = some (.int .i64 a2_0):=(qj BK101.out 0).trans rfl;have hcz14_1:w5.cell? ⟨gb101,1,none⟩ = some (.int .i64 a2_1):=(qj BK101.out 1).trans rfl;have hfz14_0:=qz BK101.out 0;have hfz14_1:=qz BK101.out 1))
        go_meet
        case rel=>exact⟨_,(true),(by first|rfl|(simp;done)|(simp[*];done)),H',⟨by first|omega|exact Nat.le_refl _⟩,⟨by(with_reducible repeat(first|refine qw ?_ _|refine qx ?_|refine qv ?_ _));exact BK101.out⟩,⟨by repeat(first|(with_reducible first|exact HB.out|apply G|apply J|apply qq|refine qk ?_ GE101.out)|exact HB.out)⟩⟩
       ·rw[if_neg c13] at H
        have c13b0:decide (2147483579≤a2_0)=false:=decide_eq_false c13
        clear c13
        by_cases c15:a2_1 < 0
        ·rw[if_pos c15] at H
         have c15b0:decide (a2_1 < 0)=true:=decide_eq_true c15
         clear c15
         have H':=U.mk H
         clear H
         go_wp2_with (first|(go_at_call 127;(with_reducible refine(qzv.calls k a0 1073741789 2147483579 t102 _ A9.out).mono ?_);rintro e w' ⟨rfl,⟨nd,rfl⟩⟩;have hcz16_0:w5.cell? ⟨gb101,0,none⟩ = some (.int .i64 a2_0):=(qj BK101.out 0).trans rfl;have hcz16_1:w5.cell? ⟨gb101,1,none⟩ = some (.int .i64 a2_1):=(qj BK101.out 1).trans rfl;have hfz16_0:=qz BK101.out 0;have hfz16_1:=qz BK101.out 1))
         go_meet
         case rel=>exact⟨_,(true),(by first|rfl|(simp;done)|(simp[*];done)),H',⟨by first|omega|exact Nat.le_refl _⟩,⟨by(with_reducible repeat(first|refine qw ?_ _|refine qx ?_|refine qv ?_ _));exact BK101.out⟩,⟨by repeat(first|(with_reducible first|exact HB.out|apply G|apply J|apply qq|refine qk ?_ GE101.out)|exact HB.out)⟩⟩
        ·rw[if_neg c15] at H
         have c15b0:decide (a2_1 < 0)=false:=decide_eq_false c15
         clear c15
         have H':=U.mk H
         clear H
         go_wp2_with (first|(go_at_call 127;(with_reducible refine(qzv.calls k a0 1073741789 2147483579 t102 _ A9.out).mono ?_);rintro e w' ⟨rfl,⟨nd,rfl⟩⟩;have hcz17_0:w5.cell? ⟨gb101,0,none⟩ = some (.int .i64 a2_0):=(qj BK101.out 0).trans rfl;have hcz17_1:w5.cell? ⟨gb101,1,none⟩ = some (.int .i64 a2_1):=(qj BK101.out 1).trans rfl;have hfz17_0:=qz BK101.out 0;have hfz17_1:=qz BK101.out 1))
         go_meet
         case rel=>exact⟨_,(decide (a2_1 ≥ 1073741789)),(by first|rfl|(simp;done)|(simp[*];done)),H',⟨by first|omega|exact Nat.le_refl _⟩,⟨by(with_reducible repeat(first|refine qw ?_ _|refine qx ?_|refine qv ?_ _));exact BK101.out⟩,⟨by repeat(first|(with_reducible first|exact HB.out|apply G|apply J|apply qq|refine qk ?_ GE101.out)|exact HB.out)⟩⟩
     ·rw[if_neg c10] at H
      have c10b0:(t102 == 1)=false:=beq_eq_false_iff_ne.mpr c10
      have c10b1:(t102 != 1)=true:=bne_iff_ne.mpr c10
      have H':=U.mk H
      clear H
      go_wp2_with (first|(go_at_call 127;(with_reducible refine(qzv.calls k a0 1073741789 2147483579 t102 _ A9.out).mono ?_);rintro e w' ⟨rfl,⟨nd,rfl⟩⟩))
      go_meet
      case rel=>exact⟨_,(true),(by first|rfl|(simp;done)|(simp[*];done)),H',⟨by first|omega|exact Nat.le_refl _⟩,⟨by(with_reducible repeat(first|refine qw ?_ _|refine qx ?_|refine qv ?_ _));exact BK101.out⟩,⟨by repeat(first|(with_reducible first|exact HB.out|apply G|apply J|apply qq|refine qk ?_ GE101.out)|exact HB.out)⟩⟩
 case rest =>
  clear HC4
  try clear c1
  try clear p2
  try clear c6
  try clear c6b0
  try clear c6b1
  try clear c7
  try clear c7b0
  try clear c8
  try clear c8b0
  try clear c10
  try clear c10b0
  try clear c10b1
  try clear c11
  try clear c11b0
  try clear c13
  try clear c13b0
  try clear c15
  try clear c15b0
  try clear hcz12_0
  try clear hcz12_1
  try clear hcz14_0
  try clear hcz14_1
  try clear hcz16_0
  try clear hcz16_1
  try clear hcz17_0
  try clear hcz17_1
  try clear hfz12_0
  try clear hfz12_1
  try clear hfz14_0
  try clear hfz14_1
  try clear hfz16_0
  try clear hfz16_1
  try clear hfz17_0
  try clear hfz17_1
  obtain⟨kq,x42_3,rfl,HA,HJ3,BK101,HB⟩:=hcut
  cases kq with
  | zero=>exact absurd HA.out (by simp[qqk.j0])
  | succ kj3 =>
   have H:=HA.out
   clear HA
   simp only[qqk.j0] at H
   by_cases c18:x42_3=true
   ·subst c18
    have H1:(some false)=some r:=by rw[if_pos rfl] at H;exact H
    clear H
    have H:=H1
    clear H1
    obtain rfl:=Option.some.inj H
    go_wp2
    go_ret
    exact⟨by first|rfl|(simp[*,jv,jk] <;> rfl),by repeat(first|(with_reducible first|exact HB.out|apply G|apply J|apply qq|refine qk ?_ GE101.out)|exact HB.out)⟩
   ·replace c18:=jq9.mpr c18
    subst c18
    have H1:((qzv.f kj3 4 a2_1 2147483579).bind fun t103=>((qqx.f a2_0 l1).bind fun t104=>((qzv.f kj3 a0 t104 2147483579).bind fun t105=>(some (t103 == (Int.tmod (wrap64 (a2_0 * t105)) 2147483579))))))=some r:=by rw[if_neg (show ¬ (false=true) by decide)] at H;exact H
    clear H
    have H:=H1
    clear H1
    replace H:=jq8.mp H
    obtain⟨t103,A190,H⟩:=H
    try dsimp only at H
    have A19:=U.mk A190
    clear A190
    replace H:=jq8.mp H
    obtain⟨t104,A200,H⟩:=H
    try dsimp only at H
    have A20:=U.mk A200
    clear A200
    replace H:=jq8.mp H
    obtain⟨t105,A210,H⟩:=H
    try dsimp only at H
    have A21:=U.mk A210
    clear A210
    obtain rfl:=Option.some.inj H
    try go_wp2
    replace BK101:=U.mk (qx BK101.out)
    replace HB:=U.mk (qq HB.out)
    refine start_ (n:=15) (S:=fun w'=>w'.cell? ⟨gb101,0,none⟩ = some (.int .i64 a2_0)∧w'.cell? ⟨gb101,1,none⟩ = some (.int .i64 a2_1)) (ds:=[]) #[Y,Y,Y,Y,Y,Y,Y,Y,Y,Y,Y,Y,Y,Y,Y] (by kernel_rfl) rfl rfl ⟨(qj BK101.out 0).trans rfl,(qj BK101.out 1).trans rfl⟩ (fun hHeld=>?_);refine with_tabW qqk.tab3 qqk.bits3 (fun HT_ HW_=>?_)
    generalize wc.drew=w22 at BK101 HB hHeld ⊢
    refine pure_ (i:=0) (N:=some 43) (v:=?_) (a':=?_) #[Z,Y,Y,Y,Y,Y,Y,Y,Y,Y,Y,Y,Y,Y,Y] rfl rfl (any_of HT_.out (by kernel_rfl)) (fun _ _ _ h=>h) (Or.inl ⟨by rfl,?_⟩) ?_ ?_
    rotate_left
    ·intro w'
     go_simp
     with_reducible rfl
    rotate_left
    ·simp only[Act.put,jq5,jq6,jq7,i64_w,i32_w]
     rfl
    refine pure_ (i:=3) (N:=some 46) (v:=?_) (a':=?_) #[Z,Y,Y,Z,Y,Y,Y,Y,Y,Y,Y,Y,Y,Y,Y] rfl rfl (any_of HT_.out (by kernel_rfl)) (fun _ _ _ h=>h) (Or.inl ⟨by rfl,?_⟩) ?_ ?_
    rotate_left
    ·intro w'
     go_simp
     with_reducible rfl
    rotate_left
    ·simp only[Act.put,jq5,jq6,jq7,i64_w,i32_w]
     rfl
    refine pure_ (i:=5) (N:=some 48) (v:=?_) (a':=?_) #[Z,Y,Y,Z,Y,Z,Y,Y,Y,Y,Y,Y,Y,Y,Y] rfl rfl (any_of HT_.out (by kernel_rfl)) (fun _ _ _ h=>h) (Or.inl ⟨by rfl,?_⟩) ?_ ?_
    rotate_left
    ·intro w'
     go_simp
     with_reducible rfl
    rotate_left
    ·simp only[Act.put,jq5,jq6,jq7,i64_w,i32_w]
     rfl
    refine pure_ (i:=6) (N:=some 49) (v:=?_) (a':=?_) #[Z,Y,Y,Z,Y,Z,Z,Y,Y,Y,Y,Y,Y,Y,Y] rfl rfl (any_of HT_.out (by kernel_rfl)) (fun _ _ _ h=>h) (Or.inl ⟨by rfl,?_⟩) ?_ ?_
    rotate_left
    ·intro w'
     go_simp
     with_reducible rfl
    rotate_left
    ·simp only[Act.put,jq5,jq6,jq7,i64_w,i32_w]
     rfl
    refine pure_ (i:=8) (N:=some 51) (v:=?_) (a':=?_) #[Z,Y,Y,Z,Y,Z,Z,Y,Z,Y,Y,Y,Y,Y,Y] rfl rfl (any_of HT_.out (by kernel_rfl)) (fun _ _ _ h=>h) (Or.inl ⟨by rfl,?_⟩) ?_ ?_
    rotate_left
    ·intro w'
     go_simp
     with_reducible rfl
    rotate_left
    ·simp only[Act.put,jq5,jq6,jq7,i64_w,i32_w]
     rfl
    refine take_ (i:=1) (N:=some 44) (v:=?_) (a':=?_) #[Z,Z,Y,Z,Y,Z,Z,Y,Z,Y,Y,Y,Y,Y,Y] rfl rfl (take_ofW HT_.out HW_.out (by kernel_rfl)) (fun _ _ _ h=>h) (Or.inl ⟨by rfl,?_⟩) hHeld ?_ ?_
    rotate_left
    ·rintro w' ⟨s0,s1⟩
     go_simp
     with_reducible rfl
    rotate_left
    ·simp only[Act.put,jq5,jq6,jq7,i64_w,i32_w]
     rfl
    refine take_ (i:=4) (N:=some 47) (v:=?_) (a':=?_) #[Z,Z,Y,Z,Z,Z,Z,Y,Z,Y,Y,Y,Y,Y,Y] rfl rfl (take_ofW HT_.out HW_.out (by kernel_rfl)) (fun _ _ _ h=>h) (Or.inl ⟨by rfl,?_⟩) hHeld ?_ ?_
    rotate_left
    ·rintro w' ⟨s0,s1⟩
     go_simp
     with_reducible rfl
    rotate_left
    ·simp only[Act.put,jq5,jq6,jq7,i64_w,i32_w]
     rfl
    refine take_ (i:=7) (N:=some 50) (v:=?_) (a':=?_) #[Z,Z,Y,Z,Z,Z,Z,Z,Z,Y,Y,Y,Y,Y,Y] rfl rfl (take_ofW HT_.out HW_.out (by kernel_rfl)) (fun _ _ _ h=>h) (Or.inl ⟨by rfl,?_⟩) hHeld ?_ ?_
    rotate_left
    ·rintro w' ⟨s0,s1⟩
     go_simp
     with_reducible rfl
    rotate_left
    ·simp only[Act.put,jq5,jq6,jq7,i64_w,i32_w]
     rfl
    refine one_ (i:=2) (N:=some 45) #[Z,Z,Z,Z,Z,Z,Z,Z,Z,Y,Y,Y,Y,Y,Y] rfl rfl (one_of HT_.out (by kernel_rfl)) (by decide) (fun K hK=>?_)
    refine goes_ Try.func127 (by kernel_rfl) rfl #[.int .i64 4,.int .i64 a2_1,.int .i64 2147483579] (by rfl) rfl rfl (by(try simp only[jq0,jq1,jq2]);first|done|rfl|(simp only[jq3,jq4];rfl)) ?_
    with_reducible refine(qzv.calls kj3 4 a2_1 2147483579 t103 _ A19.out).mono ?_
    rintro e w' ⟨rfl,⟨nd,rfl⟩⟩
    refine⟨_,rfl,?_⟩
    refine hK.out _ _ ⟨(qj BK101.out 0).trans rfl,(qj BK101.out 1).trans rfl⟩ (fun hHeld=>?_)
    clear hK K
    refine norm_ (a':=?_) ?_ ?_
    rotate_left
    ·show Act.put _ (some 45) _=_
     simp only[Act.put,jq5,jq6,jq7,i64_w,i32_w]
     rfl
    refine one_ (i:=9) (N:=some 52) #[Z,Z,Z,Z,Z,Z,Z,Z,Z,Z,Y,Y,Y,Y,Y] rfl rfl (one_of HT_.out (by kernel_rfl)) (by decide) (fun K hK=>?_)
    refine goes_ Try.func128 (by kernel_rfl) rfl #[.int .i64 a2_0,.slice A1 l1.length c1] (by rfl) rfl rfl (by(try simp only[jq0,jq1,jq2]);first|done|rfl|(simp only[jq3,jq4];rfl)) ?_
    with_reducible refine(qqx.calls a2_0 _ _ l1 t104 _ ?side1 ?side2 A20.out).mono ?_
    (case side1=>repeat(first|exact(Kd.C_below HR1.out (by solve_by_elim (maxDepth:=20) only[HB.out,G,J,qq,qk,GE101.out]))|(with_reducible refine Kd.C_alloc ?_ _)|(with_reducible refine Kd.C_drewN ?_ _)|(with_reducible refine Kd.C_drew ?_)))
    (case side2=>exact HC1.out)
    rintro e w23 ⟨rfl,hb⟩
    refine⟨_,rfl,?_⟩
    replace BK101:=U.mk (vx (g:=gb101) (o:=.cells #[.int .i64 a2_0,.int .i64 a2_1] 59 (0,0)) (by solve_by_elim only[BK101.out,qw,qx,qv]) hb)
    replace HB:=U.mk (zz (by solve_by_elim (maxDepth:=20) only[HB.out,G,J,qq,qk,GE101.out]) hb)
    (try clear hb)
    (try clear hb2)
    (try clear hk)
    (try clear hi)
    refine hK.out _ _ ⟨(qj BK101.out 0).trans rfl,(qj BK101.out 1).trans rfl⟩ (fun hHeld=>?_)
    clear hK K
    refine norm_ (a':=?_) ?_ ?_
    rotate_left
    ·show Act.put _ (some 52) _=_
     simp only[Act.put,jq5,jq6,jq7,i64_w,i32_w]
     rfl
    refine one_ (i:=10) (N:=some 53) #[Z,Z,Z,Z,Z,Z,Z,Z,Z,Z,Z,Y,Y,Y,Y] rfl rfl (one_of HT_.out (by kernel_rfl)) (by decide) (fun K hK=>?_)
    refine goes_ Try.func127 (by kernel_rfl) rfl #[.int .i64 a0,.int .i64 t104,.int .i64 2147483579] (by rfl) rfl rfl (by(try simp only[jq0,jq1,jq2]);first|done|rfl|(simp only[jq3,jq4];rfl)) ?_
    with_reducible refine(qzv.calls kj3 a0 t104 2147483579 t105 _ A21.out).mono ?_
    rintro e w' ⟨rfl,⟨nd,rfl⟩⟩
    refine⟨_,rfl,?_⟩
    refine hK.out _ _ ⟨(qj BK101.out 0).trans rfl,(qj BK101.out 1).trans rfl⟩ (fun hHeld=>?_)
    clear hK K
    refine norm_ (a':=?_) ?_ ?_
    rotate_left
    ·show Act.put _ (some 53) _=_
     simp only[Act.put,jq5,jq6,jq7,i64_w,i32_w]
     rfl
    refine pure_ (i:=11) (N:=some 54) (v:=?_) (a':=?_) #[Z,Z,Z,Z,Z,Z,Z,Z,Z,Z,Z,Z,Y,Y,Y] rfl rfl (any_of HT_.out (by kernel_rfl)) (fun _ _ _ h=>h) (Or.inl ⟨by rfl,?_⟩) ?_ ?_
    rotate_left
    ·intro w'
     go_simp
     with_reducible rfl
    rotate_left
    ·simp only[Act.put,jq5,jq6,jq7,i64_w,i32_w]
     rfl
    refine pure_ (i:=12) (N:=some 55) (v:=?_) (a':=?_) #[Z,Z,Z,Z,Z,Z,Z,Z,Z,Z,Z,Z,Z,Y,Y] rfl rfl (any_of HT_.out (by kernel_rfl)) (fun _ _ _ h=>h) (Or.inl ⟨by rfl,?_⟩) ?_ ?_
    rotate_left
    ·intro w'
     go_simp
     with_reducible rfl
    rotate_left
    ·simp only[Act.put,jq5,jq6,jq7,i64_w,i32_w]
     rfl
    refine pure_ (i:=13) (N:=some 56) (v:=?_) (a':=?_) #[Z,Z,Z,Z,Z,Z,Z,Z,Z,Z,Z,Z,Z,Z,Y] rfl rfl (any_of HT_.out (by kernel_rfl)) (fun _ _ _ h=>h) (Or.inl ⟨by rfl,?_⟩) ?_ ?_
    rotate_left
    ·intro w'
     go_simp
     with_reducible rfl
    rotate_left
    ·simp only[Act.put,jq5,jq6,jq7,i64_w,i32_w]
     rfl
    refine pure_ (i:=14) (N:=some 6) (v:=?_) (a':=?_) #[Z,Z,Z,Z,Z,Z,Z,Z,Z,Z,Z,Z,Z,Z,Z] rfl rfl (any_of HT_.out (by kernel_rfl)) (fun _ _ _ h=>h) (Or.inl ⟨by rfl,?_⟩) ?_ ?_
    rotate_left
    ·intro w'
     go_simp
     with_reducible rfl
    rotate_left
    ·simp only[Act.put,jq5,jq6,jq7,i64_w,i32_w]
     rfl
    refine done_ (done_of HT_.out (by kernel_rfl)) ?_
    try go_wp2
    go_ret
    exact⟨by first|rfl|(simp[*,jv,jk] <;> rfl),by repeat(first|(with_reducible first|exact HB.out|apply G|apply J|apply qq|refine qk ?_ GE101.out)|exact HB.out)⟩
end Go.Proofs.Ytipdkendfcopiaa.Pr
namespace Go.Proofs.Ytipdkendfcopiaa.Pr
open Go.RowKit Go.Proofs.YtipdkendfcopiaaW.PrintWords Go.Proofs.YtipdkendfcopiaaW.PrintLast Go.Proofs.YtipdkendfcopiaaW.PrintMore
attribute [local go_sem] max2_int min2_int max_two min_two max_three min_three max_four min_four
set_option linter.unusedVariables false
set_option linter.unusedSimpArgs false
def qzz.f (a0:Int) (l1:List Int):Option (List Int):=(qqw.f a0).bind fun t101=>(if t101.length + l1.length < 140737488355328 then(some (t101 ++ l1)) else(none))
theorem qzz.calls (a0:Int) (A1:Option Addr) (c1:Nat) (l1:List Int) (r:List Int) (w:World) (hr1:Kd.C (Kd.int .u8) w A1 l1.length l1) (hc1:l1.length≤c1) (h:qzz.f a0 l1=some r) :
  Calls Try.prog 101 #[.int .i64 a0,.slice A1 l1.length c1] w fun e w'=>∃ v0_:Value,e=.returned (v0_)∧Kd.R (Kd.int .u8) 5 w' w.heap.size (fun _=>True) v0_ r∧Below w.heap.size w w':=by
 have HR1:=U.mk hr1
 have HC1:=U.mk hc1
 clear hr1 hc1
 have HB:=U.mk (Below.refl w.heap.size w)
 unfold qzz.f at h
 have H:=h
 clear h
 replace H:=jq8.mp H
 obtain⟨t101,A30,H⟩:=H
 try dsimp only at H
 have A3:=U.mk A30
 clear A30
 by_cases c4:t101.length + l1.length < 140737488355328
 ·rw[if_pos c4] at H
  have LMc4:=U.mk c4
  clear c4
  obtain⟨y104,hy104⟩ : ∃ y_:List Int,y_=(t101 ++ l1):=⟨_,rfl⟩
  replace H:(some y104)=some r:=by first|(rw[hy104];with_reducible exact H)|(have H2_:=(Option.bind_some _ _).symm.trans H;rw[hy104];with_reducible exact H2_)|(have H2_:=(Option.bind_some _ _).symm.trans H;with_reducible exact H2_)|with_reducible exact H|(rw[hy104];exact H)|exact H
  have Ny104:=U.mk hy104
  clear hy104
  obtain rfl:=Option.some.inj H
  go_enter Try.func101,Try.ntmps101
  go_wp2_with (first|((with_reducible refine jw (f:=79) rfl ?_);refine goesL_ (some 6) rfl rfl Try.func79 (by kernel_rfl) rfl #[.int .i64 a0] rfl (by(try simp only[jq0,jq1,jq2]);first|done|rfl|(simp only[jq3,jq4];rfl)) ?_;(with_reducible refine(qqw.calls a0 t101 _ A3.out).mono ?_);rintro e w5 ⟨v102,rfl,ho0,hb⟩;refine⟨_,rfl,?_⟩;have HO103:=U.mk (Kd.R_lower ho0 (zj (by solve_by_elim only[HB.out,G,J,qq])));replace HB:=U.mk (zz (by solve_by_elim only[HB.out,G,J,qq]) hb);(try clear hb ho0))|((with_reducible refine gate_builtin (b:=.append) (xs:=#[.tmp 6,.tmp 7]) rfl ?_);at_builtin;refine Kd.R_append_rows (Kd.int .u8) (w0:=w) w.heap.size rfl (.tmp 6) (.tmp 7) 22 5 (.int .u8 0) 1 rfl Try.underlying22 info5 rfl (by decide) (by omega) v102 t101 l1 _ _ _ (fun _=>True) (fun _=>False) rfl rfl ?aO ?aR (fun _ _ h=>h) (fun _ h=>h.elim) ?aF ?aB ?aS ?aL ?_;(case aR=>repeat(first|exact(Kd.C_below HR1.out HB.out)|(with_reducible refine Kd.C_alloc ?_ _)|(with_reducible refine Kd.C_drewN ?_ _)|(with_reducible refine Kd.C_drew ?_)));(case aB=>exact(by solve_by_elim only[HB.out,G,J,qq]));(case aF=>exact(fun _ _=>trivial));(case aO=>exact(by solve_by_elim only[HO103.out,Kd.zv,Kd.zk,Kd.zw]));(case aS=>exact(zj (by solve_by_elim only[HB.out,G,J,qq])));(case aL=>have:=LMc4.out;omega);intro v105 w6 ho hb hg hat;rw[← Ny104.out] at ho;replace HB:=U.mk (hb);have HO106:=U.mk (ho);clear HO103;clear ho hb hg hat))
  go_ret
  exact⟨_,by first|rfl|(simp[*,jv,jk] <;> rfl),by(with_reducible repeat(first|apply Kd.zv|apply Kd.zk|apply Kd.zw));exact HO106.out,by repeat(first|(with_reducible first|exact HB.out|apply G|apply J|apply qq)|exact HB.out)⟩
 ·rw[if_neg c4] at H
  exact absurd H (by simp)
end Go.Proofs.Ytipdkendfcopiaa.Pr
