/- Printed texts, walks and plain facts that the law FnExactGoodAttack leans on, joined. -/
import Derived.Test.YtakocdkcfjkmdaaFullFnExactGoodAttackA
import Derived.ProofKit
import Derived.OpenShut
import Derived.ShutString
import Derived.ChangeOld
import Derived.Deep.Slices
import Derived.Lib.SmallJoins
import Derived.Test.YtakocdkcfjkmdaaProg
import Derived.Below
import Derived.Deep.Draws
import Derived.Deep.AppendLies
import Derived.Maps.AppendAt
import Derived.OwnWalk
import Derived.Laws.BytesArg
import Derived.Laws.MakeOwn
import Derived.Laws.OwnMore
import Derived.Deep.OwnRows
import Derived.Tactics
import Derived.Lib.ConvBytes
import Derived.Laws.Slices
import Derived.WalkKit
import Derived.KernelRfl
import Derived.RowKit3
import Derived.Deep.LoopGhost
import Derived.Deep.QuietTactic
import Derived.BigQuiet
import Derived.WideLaws
import Derived.Deep.DeepCutAuto
import Derived.Deep.CutBlock
import Derived.Deep.RegionHeld3
import Derived.Laws.Rows
import Derived.Lib.AppendStr
import Derived.ArgAppend
import Derived.Laws.IdiomCopy
import Derived.OrdersHeld
import Derived.Laws.BitsLemmas
import Derived.RowKit
import Derived.Laws.Cover1
set_option maxHeartbeats 8000000
set_option maxRecDepth 100000
open List renaming map_toArray → jq0, map_cons → jq1, map_nil → jq2, length_drop → jq3, length_take → jq4, setIfInBounds_toArray → jq5, set_cons_zero → jq6, set_cons_succ → jq7
open Option renaming bind_eq_some_iff → jq8
open Bool renaming eq_false_iff → jq9, true → Z, false → Y
namespace Go.Proofs.Ytakocdkcfjkmdaa.Read
open Go.RowKit Go.ChangeShapes Go.WideShapes Go.Deep Go.Proofs.YtakocdkcfjkmdaaW.PrintWords
set_option linter.unusedVariables false
def Tells (P:Program) (t:TypeId) {α:Type} (d:Kd α) (ok : α→Prop):Prop :=
 P.cellsOf t=d.sz∧∀ (H:Type) (enc:TypeId × Value→H) (w:World) (sp:Nat→Bool) (fuel:Nat) (cs:List Value) (x:DataW H × List MemPlace),
  DataW.trod enc P w 0 sp true fuel t cs=some x→∃ a : α,d.K w a cs∧ok a
theorem tells_int {P:Program} {t:TypeId} {k:IntKind} (ht:P.underlying t=some (.int k)) (hc:P.cellsOf t=1):Tells P t (Kd.int k) (fun n=>(Lit.int k n).wf=true) :=
 ⟨hc,fun H enc w sp fuel cs x h=>by
  obtain⟨n,rfl,_,hw⟩:=DataW.trod_int ht h
  exact⟨n,rfl,hw⟩⟩
theorem tells_bool {P:Program} {t:TypeId} (ht:P.underlying t=some .bool) (hc:P.cellsOf t=1):Tells P t Kd.bool (fun _=>True) :=
 ⟨hc,fun H enc w sp fuel cs x h=>by
  obtain⟨n,rfl,_⟩:=DataW.trod_bool ht h
  exact⟨n,rfl,trivial⟩⟩
theorem tells_string {P:Program} {t:TypeId} (ht:P.underlying t=some .string) (hc:P.cellsOf t=1):Tells P t Kd.string (fun s=>s.size≤maxLen) :=
 ⟨hc,fun H enc w sp fuel cs x h=>by
  obtain⟨n,rfl,_,hs⟩:=DataW.trod_string ht h
  exact⟨n,rfl,hs⟩⟩
theorem tells_slice {P:Program} {t e:TypeId} {α:Type} {d:Kd α} {ok : α→Prop} (ht:P.underlying t=some (.slice e)) (hc:P.cellsOf t=1) (he:Tells P e d ok) :
  Tells P t (Kd.slice e d) (fun xs=>xs.length≤9223372036854775807∧∀ x ∈ xs,ok x):=by
 refine⟨hc,fun H enc w sp fuel cs x h=>?_⟩
 rcases open_slice ht h with ⟨rfl,_⟩|⟨a,len,cap,m,n,D,Pl,rfl,_,hl,hm,hmm,_,hx⟩
 ·exact⟨[],⟨none,0,rfl,by simp,Kd.C_nil d w⟩,by simp,by simp⟩
 ·have hlm:len≤m:=by rw[hmm];split <;> omega
  have hmax:len≤9223372036854775807:=by unfold maxLen at hm;omega
  have key:∀ j,j≤len→∃ xs:List α,xs.length=j∧(∀ x ∈ xs,ok x)∧∀ i p,xs[i]? = some p→∃ c,c.length=d.sz∧d.K w p c∧∀ k u,c[k]? = some u→w.cell? (a.add (i * d.sz + k))=some u:=by
   intro j
   induction j with
   | zero=>exact fun _=>⟨[],rfl,by simp,by simp⟩
   | succ j ih =>
    intro hj
    obtain⟨xs,hxl,hok,hc⟩:=ih (by omega)
    obtain⟨cs',h1,h2⟩:=hx j (by omega)
    obtain⟨y,hy,hoky⟩:=he.2 H enc w sp n cs' _ h2
    obtain⟨_,hcl,hcc⟩:=World.cells?_some h1
    refine⟨xs ++ [y],by simp[hxl],fun x hx=>?_,fun i p hp=>?_⟩
    ·rcases List.mem_append.1 hx with hx|hx
     ·exact hok x hx
     ·rw[List.mem_singleton.1 hx];exact hoky
    ·rcases Nat.lt_or_ge i xs.length with hi|hi
     ·rw[List.getElem?_append_left hi] at hp
      exact hc i p hp
     ·rw[List.getElem?_append_right hi] at hp
      have hi':i=xs.length:=by
       rcases Nat.eq_zero_or_pos (i - xs.length) with h0|h0
       ·omega
       ·rw[List.getElem?_eq_none (by simp;omega)] at hp;cases hp
      subst hi'
      simp only[Nat.sub_self,List.getElem?_cons_zero,Option.some.injEq] at hp
      subst hp
      refine⟨cs',by rw[hcl,he.1],hy,fun k u hu=>?_⟩
      have hk:k < P.cellsOf e:=by
       rcases Nat.lt_or_ge k cs'.length with h|h
       ·omega
       ·rw[List.getElem?_eq_none h] at hu;cases hu
      have:=hcc k hk
      rw[Go.Addr.add_add,he.1,← hxl] at this
      rw[this];exact hu
  obtain⟨xs,hxl,hok,hc⟩:=key len (Nat.le_refl _)
  refine⟨xs,⟨some a,cap,by rw[hxl],by omega,?_⟩,by omega,hok⟩
  exact⟨rfl,by omega,fun _=>⟨a,rfl,hc⟩⟩
def TellsFs (P:Program) (fs:List Field) (o:Nat) {α:Type} (d:Kd α) (ok : α→Prop):Prop :=
 ∀ (H:Type) (enc:TypeId × Value→H) (w:World) (sp:Nat→Bool) (n:Nat) (cs:List Value),o + d.sz=cs.length →
  (∀ f ∈ fs,∃ x,DataW.trod enc P w 0 sp true n f.type ((cs.drop f.offset).take (P.cellsOf f.type))=some x)→∃ a,d.K w a (cs.drop o)∧ok a
theorem fs_one {P:Program} {f:Field} {o:Nat} {α:Type} {d:Kd α} {ok : α→Prop} (ho:f.offset=o) (hf:Tells P f.type d ok):TellsFs P [f] o d ok:=by
 intro H enc w sp n cs hl h
 obtain⟨x,hx⟩:=h f List.mem_cons_self
 obtain⟨a,ha,hok⟩:=hf.2 H enc w sp n _ x hx
 refine⟨a,?_,hok⟩
 rw[ho,hf.1,List.take_of_length_le (by rw[jq3];omega)] at ha
 exact ha
theorem fs_cons {P:Program} {f:Field} {fs:List Field} {o:Nat} {α β:Type} {d:Kd α} {ok : α→Prop} {d2:Kd β} {ok2 : β→Prop} (ho:f.offset=o) (hf:Tells P f.type d ok)
  (hr:TellsFs P fs (o + d.sz) d2 ok2):TellsFs P (f :: fs) o (Kd.pair d d2) (fun p=>ok p.1∧ok2 p.2):=by
 intro H enc w sp n cs hl h
 have hl':o + (d.sz + d2.sz)=cs.length:=hl
 obtain⟨x,hx⟩:=h f List.mem_cons_self
 obtain⟨a,ha,hok⟩:=hf.2 H enc w sp n _ x hx
 obtain⟨b,hb,hok2⟩:=hr H enc w sp n cs (by omega) (fun g hg=>h g (List.mem_cons_of_mem _ hg))
 refine⟨(a,b),⟨(cs.drop o).take d.sz,cs.drop (o + d.sz),?_,?_,hb⟩,hok,hok2⟩
 ·rw[← List.drop_drop,List.take_append_drop]
 ·rw[ho,hf.1] at ha;exact ha
theorem tells_struct {P:Program} {t:TypeId} {fs:Array Field} {α:Type} {d:Kd α} {ok : α→Prop} (ht:P.underlying t=some (.struct fs)) (hc:P.cellsOf t=d.sz) (hf:TellsFs P fs.toList 0 d ok):Tells P t d ok:=by
 refine⟨hc,fun H enc w sp fuel cs x h=>?_⟩
 obtain⟨xs,n,rfl,_,hl,hxl,hx⟩:=DataW.trod_struct ht h
 have:=hf H enc w sp n cs (by rw[Nat.zero_add,← hc,hl]) (fun f hmem=>by
  obtain⟨i,hi,rfl⟩:=List.getElem_of_mem hmem
  have hi':i < fs.size:=by simpa using hi
  have h1:=hx i (fs.toList[i]) (by simp[hi'])
  refine⟨xs[i]'(by omega),?_⟩
  rw[h1,List.getElem?_eq_getElem])
 simpa using this
theorem tells_iso {P:Program} {t:TypeId} {α β:Type} {d:Kd α} {ok : α→Prop} (f : β→α) (g : α→β) (hfg:∀ a,f (g a)=a) (h:Tells P t d ok):Tells P t (Kd.iso d f) (fun b=>ok (f b)) :=
 ⟨h.1,fun H enc w sp fuel cs x hx=>by
  obtain⟨a,ha,hok⟩:=h.2 H enc w sp fuel cs x hx
  exact⟨g a,by show d.K w (f (g a)) cs;rw[hfg];exact ha,by show ok (f (g a));rw[hfg];exact hok⟩⟩
theorem tells_weaken {P:Program} {t:TypeId} {α:Type} {d:Kd α} {ok ok' : α→Prop} (h:Tells P t d ok) (hw:∀ a,ok a→ok' a):Tells P t d ok' :=
 ⟨h.1,fun H enc w sp fuel cs x hx=>let ⟨a,ha,ho⟩:=h.2 H enc w sp fuel cs x hx;⟨a,ha,hw a ho⟩⟩
theorem tells_arg {P:Program} {t:TypeId} {α:Type} {d:Kd α} {ok : α→Prop} (h:Tells P t d ok) {H:Type} {enc:TypeId × Value→H} {w:World} {sp:Nat→Bool} {v:Value} {D:DataW H} {ps:List MemPlace}
  (hv:DataW.Trod enc P w 0 sp true t v D ps):∃ a,d.K w a v.cells.toList∧ok a:=by
 obtain⟨fuel,hf⟩:=hv
 exact h.2 H enc w sp fuel _ _ hf
theorem int_bounds {n:Int} (h:(Lit.int .i64 n).wf=true) : -9223372036854775808≤n∧n≤9223372036854775807:=by
 simpa [Lit.wf,IntKind.min,IntKind.max,IntKind.signed,IntKind.bits] using h
theorem byte_bounds {n:Int} (h:(Lit.int .u8 n).wf=true) : 0≤n∧n≤255:=by
 simpa [Lit.wf,IntKind.min,IntKind.max,IntKind.signed,IntKind.bits] using h
def okI (n:Int):Prop:=-9223372036854775808≤n∧n≤9223372036854775807
def okB (n:Int):Prop:=0≤n∧n≤255
def okS (s:ByteArray):Prop:=s.size≤9223372036854775807
def okL {α:Type} (ok : α→Prop) (xs:List α):Prop:=xs.length≤9223372036854775807∧∀ x ∈ xs,ok x
theorem tellsI {P:Program} {t:TypeId} (ht:P.underlying t=some (.int .i64)) (hc:P.cellsOf t=1):Tells P t (Kd.int .i64) okI:=tells_weaken (tells_int ht hc) fun _ h=>int_bounds h
theorem tellsB {P:Program} {t:TypeId} (ht:P.underlying t=some (.int .u8)) (hc:P.cellsOf t=1):Tells P t (Kd.int .u8) okB:=tells_weaken (tells_int ht hc) fun _ h=>byte_bounds h
theorem tellsS {P:Program} {t:TypeId} (ht:P.underlying t=some .string) (hc:P.cellsOf t=1):Tells P t Kd.string okS:=tells_weaken (tells_string ht hc) fun _ h=>by unfold maxLen at h;exact h
theorem tellsT {P:Program} {t:TypeId} (ht:P.underlying t=some .bool) (hc:P.cellsOf t=1):Tells P t Kd.bool (fun _=>True):=tells_bool ht hc
theorem tellsL {P:Program} {t e:TypeId} {α:Type} {d:Kd α} {ok : α→Prop} (ht:P.underlying t=some (.slice e)) (hc:P.cellsOf t=1) (he:Tells P e d ok):Tells P t (Kd.slice e d) (okL ok):=tells_slice ht hc he
theorem agg_of {P:Program} {t:TypeId} {fs:Array Field} {w:World} {r:Reach} {base:Nat} {v:Value} {cs:List Value} (ht:P.underlying t=some (.struct fs)) (hv:Value.okWide P w r base t v) (hc:v.cells.toList=cs):v=.agg cs.toArray:=by
 obtain⟨xs,rfl,_⟩:=okWide_struct ht hv
 subst hc
 simp[Value.cells]
theorem arg_struct {P:Program} {t:TypeId} {fs:Array Field} {α:Type} {d:Kd α} {ok : α→Prop} (ht:P.underlying t=some (.struct fs)) (h:Tells P t d ok) {H:Type} {enc:TypeId × Value→H} {w w2:World} {r:Reach} {base:Nat} {sp:Nat→Bool} {v:Value} {D:DataW H} {ps:List MemPlace}
  (ho:Value.okWide P w2 r base t v) (hv:DataW.Trod enc P w 0 sp true t v D ps):∃ a cs,v=.agg cs.toArray∧d.K w a cs∧ok a:=by
 obtain⟨a,hK,hok⟩:=tells_arg h hv
 exact⟨a,_,agg_of ht ho rfl,hK,hok⟩
end Go.Proofs.Ytakocdkcfjkmdaa.Read
namespace Go.Proofs.Ytakocdkcfjkmdaa.Pr
open Go.RowKit Go.Proofs.YtakocdkcfjkmdaaW.PrintWords Go.Proofs.YtakocdkcfjkmdaaW.PrintLast Go.Proofs.YtakocdkcfjkmdaaW.PrintMore
attribute [local go_sem] max2_int min2_int max_two min_two max_three min_three max_four min_four
set_option linter.unusedVariables false
set_option linter.unusedSimpArgs false
def errW:Option Int→Value
 | none=>.nilIface
 | some c=>.iface 0 (.int .i64 c)
theorem zv:errW none=.nilIface:=rfl
theorem zk (c:Int):errW (some c)=.iface 0 (.int .i64 c):=rfl
theorem info3:(Try.prog.info? 3).map (fun i=>(i.zero,i.size,i.bytes))=some (some (.int .i64 0),1,8):=by kernel_rfl
theorem info5:(Try.prog.info? 5).map (fun i=>(i.zero,i.size,i.bytes))=some (some (.int .u8 0),1,1):=by kernel_rfl
theorem info9:(Try.prog.info? 9).map (fun i=>(i.zero,i.size,i.bytes))=some (some (.string ⟨#[]⟩),1,16):=by kernel_rfl
theorem info77:(Try.prog.info? 77).map (fun i=>(i.zero,i.size,i.bytes))=some (some (.agg #[(.string ⟨#[]⟩),(.slice none 0 0),(.slice none 0 0),(.slice none 0 0),(.slice none 0 0)]),5,112):=by kernel_rfl
structure S50 where
 f0:ByteArray
 f1:Int
 f2:Int
 f3:Int
structure S53 where
 f0:ByteArray
 f1:Int
 f2:Int
 f3:Int
structure S96 where
 f0:ByteArray
 f1:(List Int)
 f2:(List ByteArray)
 f3:(List ByteArray)
 f4:(List Int)
def z96:S96:=⟨(⟨#[]⟩ : ByteArray),([]:List Int),([]:List ByteArray),([]:List ByteArray),([]:List Int)⟩
def k96:Kd S96:=Kd.iso (Kd.pair Kd.string (Kd.pair (Kd.slice 5 (Kd.int .u8)) (Kd.pair (Kd.slice 9 Kd.string) (Kd.pair (Kd.slice 9 Kd.string) (Kd.slice 3 (Kd.int .i64)))))) (fun x:S96=>(x.f0,x.f1,x.f2,x.f3,x.f4))
theorem k96_open {w:World} {x:S96} {cs:List Value} (h:k96.K w x cs):∃ A1 c1 A2 c2 A3 c3 A4 c4,cs=[.string x.f0,.slice A1 x.f1.length c1,.slice A2 x.f2.length c2,.slice A3 x.f3.length c3,.slice A4 x.f4.length c4]∧x.f1.length≤c1∧(Kd.int .u8).C w A1 x.f1.length x.f1∧x.f2.length≤c2∧Kd.string.C w A2 x.f2.length x.f2∧x.f3.length≤c3∧Kd.string.C w A3 x.f3.length x.f3∧x.f4.length≤c4∧(Kd.int .i64).C w A4 x.f4.length x.f4:=by
 obtain⟨_,_,rfl,rfl,⟨_,_,rfl,⟨A1,c1,rfl,l1,g1⟩,⟨_,_,rfl,⟨A2,c2,rfl,l2,g2⟩,⟨_,_,rfl,⟨A3,c3,rfl,l3,g3⟩,⟨A4,c4,rfl,l4,g4⟩⟩⟩⟩⟩:=h
 exact⟨A1,c1,A2,c2,A3,c3,A4,c4,rfl,l1,g1,l2,g2,l3,g3,l4,g4⟩
def kx (xs:List S96) (i:Int):S96:=xs.getD i.toNat z96
theorem at_T96 {w:World} {A:Option Addr} {n:Nat} {xs:List S96} (h:Kd.C k96 w A n xs) (i:Int) (h0 : 0≤i) (h1:i < n):∃ ad A1 c1 A2 c2 A3 c3 A4 c4,A=some ad∧w.cell? (ad.add (i.toNat * 5))=some (.string (kx xs i).f0)∧w.cell? ⟨(ad.add (i.toNat * 5)).block,(ad.add (i.toNat * 5)).off + 1,none⟩ = some (.slice A1 (kx xs i).f1.length c1)∧w.cell? ⟨(ad.add (i.toNat * 5)).block,(ad.add (i.toNat * 5)).off + 2,none⟩ = some (.slice A2 (kx xs i).f2.length c2)∧w.cell? ⟨(ad.add (i.toNat * 5)).block,(ad.add (i.toNat * 5)).off + 3,none⟩ = some (.slice A3 (kx xs i).f3.length c3)∧w.cell? ⟨(ad.add (i.toNat * 5)).block,(ad.add (i.toNat * 5)).off + 4,none⟩ = some (.slice A4 (kx xs i).f4.length c4)∧(kx xs i).f1.length≤c1∧(Kd.int .u8).C w A1 (kx xs i).f1.length (kx xs i).f1∧(kx xs i).f2.length≤c2∧Kd.string.C w A2 (kx xs i).f2.length (kx xs i).f2∧(kx xs i).f3.length≤c3∧Kd.string.C w A3 (kx xs i).f3.length (kx xs i).f3∧(kx xs i).f4.length≤c4∧(Kd.int .i64).C w A4 (kx xs i).f4.length (kx xs i).f4:=by
 obtain⟨ad,c,e,_,hK,hc0⟩:=Kd.C_get h z96 i h0 h1
 have hc:∀ j u,c[j]? = some u→w.cell? (ad.add (i.toNat * 5 + j))=some u:=hc0
 obtain⟨A1,c1,A2,c2,A3,c3,A4,c4,rfl,l1,g1,l2,g2,l3,g3,l4,g4⟩:=k96_open hK
 exact⟨ad,A1,c1,A2,c2,A3,c3,A4,c4,e,hc 0 _ rfl,by rw[← add_field _ _ 1 (by omega)];exact hc 1 _ rfl,by rw[← add_field _ _ 2 (by omega)];exact hc 2 _ rfl,by rw[← add_field _ _ 3 (by omega)];exact hc 3 _ rfl,by rw[← add_field _ _ 4 (by omega)];exact hc 4 _ rfl,l1,g1,l2,g2,l3,g3,l4,g4⟩
structure S77 where
 f0:ByteArray
 f1:(List Int)
 f2:(List ByteArray)
 f3:(List ByteArray)
 f4:(List Int)
def z77:S77:=⟨(⟨#[]⟩ : ByteArray),([]:List Int),([]:List ByteArray),([]:List ByteArray),([]:List Int)⟩
def k77:Kd S77:=Kd.iso (Kd.pair Kd.string (Kd.pair (Kd.slice 5 (Kd.int .u8)) (Kd.pair (Kd.slice 9 Kd.string) (Kd.pair (Kd.slice 9 Kd.string) (Kd.slice 3 (Kd.int .i64)))))) (fun x:S77=>(x.f0,x.f1,x.f2,x.f3,x.f4))
theorem k77_heap:Kd.Heap k77:=Kd.heap_iso _ (Kd.heap_pair Kd.heap_string (Kd.heap_pair (Kd.heap_slice 5 (Kd.heap_int .u8)) (Kd.heap_pair (Kd.heap_slice 9 Kd.heap_string) (Kd.heap_pair (Kd.heap_slice 9 Kd.heap_string) (Kd.heap_slice 3 (Kd.heap_int .i64))))))
theorem k77_open {w:World} {x:S77} {cs:List Value} (h:k77.K w x cs):∃ A1 c1 A2 c2 A3 c3 A4 c4,cs=[.string x.f0,.slice A1 x.f1.length c1,.slice A2 x.f2.length c2,.slice A3 x.f3.length c3,.slice A4 x.f4.length c4]∧x.f1.length≤c1∧(Kd.int .u8).C w A1 x.f1.length x.f1∧x.f2.length≤c2∧Kd.string.C w A2 x.f2.length x.f2∧x.f3.length≤c3∧Kd.string.C w A3 x.f3.length x.f3∧x.f4.length≤c4∧(Kd.int .i64).C w A4 x.f4.length x.f4:=by
 obtain⟨_,_,rfl,rfl,⟨_,_,rfl,⟨A1,c1,rfl,l1,g1⟩,⟨_,_,rfl,⟨A2,c2,rfl,l2,g2⟩,⟨_,_,rfl,⟨A3,c3,rfl,l3,g3⟩,⟨A4,c4,rfl,l4,g4⟩⟩⟩⟩⟩:=h
 exact⟨A1,c1,A2,c2,A3,c3,A4,c4,rfl,l1,g1,l2,g2,l3,g3,l4,g4⟩
theorem k77_openM {w:World} {base:Nat} {ok:Nat→Prop} {x:S77} {cs:List Value} (h:k77.M w base ok x cs):∃ v1 v2 v3 v4,cs=[.string x.f0,v1,v2,v3,v4]∧(Kd.int .u8).R 5 w base ok v1 x.f1∧Kd.string.R 9 w base ok v2 x.f2∧Kd.string.R 9 w base ok v3 x.f3∧(Kd.int .i64).R 3 w base ok v4 x.f4:=by
 obtain⟨_,_,rfl,rfl,⟨_,_,rfl,⟨v1,rfl,g1⟩,⟨_,_,rfl,⟨v2,rfl,g2⟩,⟨_,_,rfl,⟨v3,rfl,g3⟩,⟨v4,rfl,g4⟩⟩⟩⟩⟩:=h
 exact⟨v1,v2,v3,v4,rfl,g1,g2,g3,g4⟩
theorem k77_mkM (w:World) (base:Nat) (ok:Nat→Prop) (x:S77) {v1:Value} (g1:(Kd.int .u8).R 5 w base ok v1 x.f1) {v2:Value} (g2:Kd.string.R 9 w base ok v2 x.f2) {v3:Value} (g3:Kd.string.R 9 w base ok v3 x.f3) {v4:Value} (g4:(Kd.int .i64).R 3 w base ok v4 x.f4):k77.M w base ok x [.string x.f0,v1,v2,v3,v4]:=⟨[.string x.f0],[v1,v2,v3,v4],rfl,rfl,⟨[v1],[v2,v3,v4],rfl,⟨v1,rfl,g1⟩,⟨[v2],[v3,v4],rfl,⟨v2,rfl,g2⟩,⟨[v3],[v4],rfl,⟨v3,rfl,g3⟩,⟨v4,rfl,g4⟩⟩⟩⟩⟩
theorem k77_openF {W:World} {ok:Nat→Prop} {x:S77} {cs:List Value} (h:Kd.FK k77 W ok x cs):∃ A1 c1 A2 c2 A3 c3 A4 c4,cs=[.string x.f0,.slice A1 x.f1.length c1,.slice A2 x.f2.length c2,.slice A3 x.f3.length c3,.slice A4 x.f4.length c4]∧x.f1.length≤c1∧Kd.F (Kd.int .u8) W ok A1 x.f1.length x.f1∧x.f2.length≤c2∧Kd.F Kd.string W ok A2 x.f2.length x.f2∧x.f3.length≤c3∧Kd.F Kd.string W ok A3 x.f3.length x.f3∧x.f4.length≤c4∧Kd.F (Kd.int .i64) W ok A4 x.f4.length x.f4:=by
 obtain⟨A1,c1,A2,c2,A3,c3,A4,c4,rfl,l1,_,l2,_,l3,_,l4,_⟩:=k77_open (Kd.FK_now h)
 exact⟨A1,c1,A2,c2,A3,c3,A4,c4,rfl,l1,(fun W' hW=>by obtain⟨A1_,c1_,A2_,c2_,A3_,c3_,A4_,c4_,he,l1_,g1_,l2_,g2_,l3_,g3_,l4_,g4_⟩:=k77_open (h W' hW);injection (Option.some.inj (show some (Value.slice A1 x.f1.length c1)=some (Value.slice A1_ x.f1.length c1_) from congrArg (fun l=>l[1]?) he)) with ha_ _ _;rw[ha_];exact g1_),l2,(fun W' hW=>by obtain⟨A1_,c1_,A2_,c2_,A3_,c3_,A4_,c4_,he,l1_,g1_,l2_,g2_,l3_,g3_,l4_,g4_⟩:=k77_open (h W' hW);injection (Option.some.inj (show some (Value.slice A2 x.f2.length c2)=some (Value.slice A2_ x.f2.length c2_) from congrArg (fun l=>l[2]?) he)) with ha_ _ _;rw[ha_];exact g2_),l3,(fun W' hW=>by obtain⟨A1_,c1_,A2_,c2_,A3_,c3_,A4_,c4_,he,l1_,g1_,l2_,g2_,l3_,g3_,l4_,g4_⟩:=k77_open (h W' hW);injection (Option.some.inj (show some (Value.slice A3 x.f3.length c3)=some (Value.slice A3_ x.f3.length c3_) from congrArg (fun l=>l[3]?) he)) with ha_ _ _;rw[ha_];exact g3_),l4,(fun W' hW=>by obtain⟨A1_,c1_,A2_,c2_,A3_,c3_,A4_,c4_,he,l1_,g1_,l2_,g2_,l3_,g3_,l4_,g4_⟩:=k77_open (h W' hW);injection (Option.some.inj (show some (Value.slice A4 x.f4.length c4)=some (Value.slice A4_ x.f4.length c4_) from congrArg (fun l=>l[4]?) he)) with ha_ _ _;rw[ha_];exact g4_)⟩
def kw (xs:List S77) (i:Int):S77:=xs.getD i.toNat z77
theorem at_T77 {w:World} {A:Option Addr} {n:Nat} {xs:List S77} (h:Kd.C k77 w A n xs) (i:Int) (h0 : 0≤i) (h1:i < n):∃ ad A1 c1 A2 c2 A3 c3 A4 c4,A=some ad∧w.cell? (ad.add (i.toNat * 5))=some (.string (kw xs i).f0)∧w.cell? ⟨(ad.add (i.toNat * 5)).block,(ad.add (i.toNat * 5)).off + 1,none⟩ = some (.slice A1 (kw xs i).f1.length c1)∧w.cell? ⟨(ad.add (i.toNat * 5)).block,(ad.add (i.toNat * 5)).off + 2,none⟩ = some (.slice A2 (kw xs i).f2.length c2)∧w.cell? ⟨(ad.add (i.toNat * 5)).block,(ad.add (i.toNat * 5)).off + 3,none⟩ = some (.slice A3 (kw xs i).f3.length c3)∧w.cell? ⟨(ad.add (i.toNat * 5)).block,(ad.add (i.toNat * 5)).off + 4,none⟩ = some (.slice A4 (kw xs i).f4.length c4)∧(kw xs i).f1.length≤c1∧(Kd.int .u8).C w A1 (kw xs i).f1.length (kw xs i).f1∧(kw xs i).f2.length≤c2∧Kd.string.C w A2 (kw xs i).f2.length (kw xs i).f2∧(kw xs i).f3.length≤c3∧Kd.string.C w A3 (kw xs i).f3.length (kw xs i).f3∧(kw xs i).f4.length≤c4∧(Kd.int .i64).C w A4 (kw xs i).f4.length (kw xs i).f4:=by
 obtain⟨ad,c,e,_,hK,hc0⟩:=Kd.C_get h z77 i h0 h1
 have hc:∀ j u,c[j]? = some u→w.cell? (ad.add (i.toNat * 5 + j))=some u:=hc0
 obtain⟨A1,c1,A2,c2,A3,c3,A4,c4,rfl,l1,g1,l2,g2,l3,g3,l4,g4⟩:=k77_open hK
 exact⟨ad,A1,c1,A2,c2,A3,c3,A4,c4,e,hc 0 _ rfl,by rw[← add_field _ _ 1 (by omega)];exact hc 1 _ rfl,by rw[← add_field _ _ 2 (by omega)];exact hc 2 _ rfl,by rw[← add_field _ _ 3 (by omega)];exact hc 3 _ rfl,by rw[← add_field _ _ 4 (by omega)];exact hc 4 _ rfl,l1,g1,l2,g2,l3,g3,l4,g4⟩
def bytesOfS.f (s:ByteArray):Option (List Int):=if s.size≤9223372036854775807 then some (bytesOf s) else none
def BytesCalls (P:Program) (src dst:TypeId) (s:ByteArray) (w:World) (R:Ending→World→Prop):Prop :=
 ∃ v w',(convert src dst (.string s)).run P w=.ok v w'∧R (.returned v) w'
theorem BytesCalls.mono {P:Program} {src dst:TypeId} {s:ByteArray} {w:World} {R R':Ending→World→Prop} (h:BytesCalls P src dst s w R) (hr:∀ e w',R e w'→R' e w'):BytesCalls P src dst s w R' :=
 let ⟨v,w',h1,h2⟩:=h;⟨v,w',h1,hr _ _ h2⟩
theorem bytesOfS.calls (a0:ByteArray) (r:List Int) (w:World) (h:bytesOfS.f a0=some r) :
  BytesCalls Try.prog 9 22 a0 w fun e w'=>∃ v0_:Value,e=.returned (v0_)∧Kd.V (Kd.int .u8) 5 w' w.heap.size (fun k_=>(w.heap.size≤k_)) v0_ r∧Below w.heap.size w w':=by
 unfold bytesOfS.f at h
 by_cases hs:a0.size≤9223372036854775807
 case neg=>rw[if_neg hs] at h;cases h
 rw[if_pos hs] at h
 obtain rfl:=Option.some.inj h
 refine⟨_,_,print_bytes 9 22 5 Try.underlying9 Try.underlying22 Try.underlying5 a0 w,_,rfl,?_,vz (Below.refl _ _) (Nat.le_refl _) 5 a0⟩
 have hcell:∀ W':World,W'.heap[w.heap.size]? = (Lib.bytesWorld w 5 a0).heap[w.heap.size]? → (Kd.int .u8).C W' (some ⟨w.heap.size,0,none⟩) (bytesOf a0).length (bytesOf a0):=by
  intro W' hW
  have h0:=vk w 5 a0 hs
  have h1:ReadsInt W' .u8 (some ⟨w.heap.size,0,none⟩) (bytesOf a0).length (bytesOf a0):=by
   refine⟨rfl,by rw[bytesOf_length];exact hs,fun hp=>?_⟩
   obtain⟨ad,e1,hc⟩:=h0.2.2 (by rw[bytesOf_length] at hp;exact hp)
   refine⟨ad,e1,fun j hj=>?_⟩
   rw[← hc j (by rw[bytesOf_length] at hj;exact hj)]
   injection e1 with e1
   subst e1
   rw[add_plain]
   exact World.cell?_of_block (by exact hW)
  exact Kd.C_of_reads (d:=(0:Int)) (h1:=fun _=>rfl) h1
 refine⟨some ⟨w.heap.size,0,none⟩,grownCap w a0.size 0 5,by rw[bytesOf_length],by rw[bytesOf_length];exact grownCap_ge _ _ _ _,fun W' hW=>hcell W' (hW _ (Nat.le_refl _) ?_)⟩
 rw[Lib.bytesWorld_size];omega
section
variable {P:Program} {ops:Array Oper} {Q:Exit→Act→World→Prop}
theorem bytesGoes_ {oi:Oper} {N:Option Tmp} {a:Act} {w:World} {K:Act→World→Prop} {src dst:TypeId} {x:Operand} {s:ByteArray}
  (hw:Region.wanted oi (yielded ops a.tmps)=true) (hN:oi.dst=N) (hop:oi.op=.convert src dst x) (hx:a.eval x=.string s)
  (h:BytesCalls P src dst s w fun e w'=>∃ v,e=.returned v∧K (a.put N v) w'):if Region.wanted oi (yielded ops a.tmps)=true then Oper.wp P oi a w K Q else K (a.put N undef) w:=by
 obtain⟨v,w',hr,v',he,hk⟩:=h
 injection he with he
 subst he
 subst hN
 refine event_step hw ?_ hk
 unfold execOp
 simp[hop,hx,hr]
def BoxCalls (t:TypeId) (cs:Array Value) (w:World) (R:Ending→World→Prop):Prop:=R (.returned (.pointer (some ⟨w.heap.size,0,none⟩))) (w.alloc (.cells cs t (0,0)))
theorem BoxCalls.mono {t:TypeId} {cs:Array Value} {w:World} {R R':Ending→World→Prop} (h:BoxCalls t cs w R) (hr:∀ e w',R e w'→R' e w'):BoxCalls t cs w R':=hr _ _ h
end
def qwq.f (a0:Int):Option (Bool):=if a0 ≥ 97 then(if a0≤122 then(some true) else(if a0 ≥ 65 then(some (decide (a0≤90))) else(some false))) else(if a0 ≥ 65 then(some (decide (a0≤90))) else(some false))
theorem qwq.calls (a0:Int) (r:Bool) (w:World) (h:qwq.f a0=some r) :
  Calls Try.prog 66 #[.int .u8 a0] w fun e w'=>e=.returned (.bool r)∧Drawn0 w w':=by
 unfold qwq.f at h
 have H:=h
 clear h
 by_cases c2:a0 ≥ 97
 ·rw[if_pos c2] at H
  have c2b0:decide (97≤a0)=true:=decide_eq_true c2
  clear c2
  by_cases c3:a0≤122
  ·rw[if_pos c3] at H
   have c3b0:decide (a0≤122)=true:=decide_eq_true c3
   clear c3
   obtain rfl:=Option.some.inj H
   go_enter Try.func66,Try.ntmps66
   go_wp2
   go_ret
   exact⟨by first|rfl|(simp;done)|(simp[*];done),by repeat(first|exact Drawn0.refl _|apply Drawn0.step)⟩
  ·rw[if_neg c3] at H
   have c3b0:decide (a0≤122)=false:=decide_eq_false c3
   clear c3
   by_cases c4:a0 ≥ 65
   ·rw[if_pos c4] at H
    have c4b0:decide (65≤a0)=true:=decide_eq_true c4
    clear c4
    obtain rfl:=Option.some.inj H
    go_enter Try.func66,Try.ntmps66
    go_wp2
    go_ret
    exact⟨by first|rfl|(simp;done)|(simp[*];done),by repeat(first|exact Drawn0.refl _|apply Drawn0.step)⟩
   ·rw[if_neg c4] at H
    have c4b0:decide (65≤a0)=false:=decide_eq_false c4
    clear c4
    obtain rfl:=Option.some.inj H
    go_enter Try.func66,Try.ntmps66
    go_wp2
    go_ret
    exact⟨by first|rfl|(simp;done)|(simp[*];done),by repeat(first|exact Drawn0.refl _|apply Drawn0.step)⟩
 ·rw[if_neg c2] at H
  have c2b0:decide (97≤a0)=false:=decide_eq_false c2
  clear c2
  by_cases c5:a0 ≥ 65
  ·rw[if_pos c5] at H
   have c5b0:decide (65≤a0)=true:=decide_eq_true c5
   clear c5
   obtain rfl:=Option.some.inj H
   go_enter Try.func66,Try.ntmps66
   go_wp2
   go_ret
   exact⟨by first|rfl|(simp;done)|(simp[*];done),by repeat(first|exact Drawn0.refl _|apply Drawn0.step)⟩
  ·rw[if_neg c5] at H
   have c5b0:decide (65≤a0)=false:=decide_eq_false c5
   clear c5
   obtain rfl:=Option.some.inj H
   go_enter Try.func66,Try.ntmps66
   go_wp2
   go_ret
   exact⟨by first|rfl|(simp;done)|(simp[*];done),by repeat(first|exact Drawn0.refl _|apply Drawn0.step)⟩
def qvx.f (a0:Int):Option (Bool):=if a0 ≥ 48 then(some (decide (a0≤57))) else(some false)
theorem qvx.calls (a0:Int) (r:Bool) (w:World) (h:qvx.f a0=some r) :
  Calls Try.prog 67 #[.int .u8 a0] w fun e w'=>e=.returned (.bool r)∧Drawn0 w w':=by
 have H:(if a0 ≥ 48 then(some (decide (a0≤57))) else(some false))=some r:=h
 clear h
 by_cases c2:a0 ≥ 48
 ·rw[if_pos c2] at H
  have c2b0:decide (48≤a0)=true:=decide_eq_true c2
  clear c2
  obtain rfl:=Option.some.inj H
  go_enter Try.func67,Try.ntmps67
  go_wp2
  go_ret
  exact⟨by first|rfl|(simp;done)|(simp[*];done),by repeat(first|exact Drawn0.refl _|apply Drawn0.step)⟩
 ·rw[if_neg c2] at H
  have c2b0:decide (48≤a0)=false:=decide_eq_false c2
  clear c2
  obtain rfl:=Option.some.inj H
  go_enter Try.func67,Try.ntmps67
  go_wp2
  go_ret
  exact⟨by first|rfl|(simp;done)|(simp[*];done),by repeat(first|exact Drawn0.refl _|apply Drawn0.step)⟩
def qxq.l0:Nat→ByteArray→Int→Option (Bool)
 | 0,_,_=>none
 | k + 1,x0,x3=>if x3 < (x0.size:Int) then(if 0≤x3 then((qwq.f (bt x0 x3)).bind fun t101=>(if t101=true then(qxq.l0 k x0 (wrap64 (x3 + 1))) else((qvx.f (bt x0 x3)).bind fun t102=>(if t102=true then(qxq.l0 k x0 (wrap64 (x3 + 1))) else(if (bt x0 x3)=95 then(qxq.l0 k x0 (wrap64 (x3 + 1))) else(if (bt x0 x3)=45 then(qxq.l0 k x0 (wrap64 (x3 + 1))) else(if (bt x0 x3)=46 then(qxq.l0 k x0 (wrap64 (x3 + 1))) else(some false)))))))) else(none)) else(if (x0.size:Int) ≥ 1 then(some (decide ((x0.size:Int)≤40))) else(some false))
def qxq.f (k:Nat) (a0:ByteArray):Option (Bool):=qxq.l0 k a0 0
theorem qxq.calls (k:Nat) (a0:ByteArray) (r:Bool) (w:World) (h:qxq.f k a0=some r) :
  Calls Try.prog 37 #[.string a0] w fun e w'=>e=.returned (.bool r)∧Drawn0 w w':=by
 have H:(qxq.l0 k a0 0)=some r:=h
 clear h
 have H':=X.mk H
 clear H
 go_enter Try.func37,Try.ntmps37
 go_wp2
 go_loopg [3] k (fun kq v3 w'=>∃ (x3_1:Int),v3=.int .i64 x3_1∧X (qxq.l0 kq a0 x3_1=some r)∧X (kq≤k)∧Drawn0 w w')
 case atStart=>exact⟨(0),(by first|rfl|(simp;done)|(simp[*];done)),H',⟨Nat.le_refl _⟩,by repeat(first|exact Drawn0.refl _|apply Drawn0.step)⟩
 case round =>
  clear H'
  obtain⟨x3_1,rfl,HA,HK1,⟨m1,rfl⟩⟩:=hrel
  cases gk with
  | zero=>exact absurd HA.out (by simp[qxq.l0])
  | succ k1 =>
   have H:=HA.out
   clear HA
   simp only[qxq.l0] at H
   by_cases c2:x3_1 < (a0.size:Int)
   ·rw[if_pos c2] at H
    have c2b0:decide (x3_1 < (a0.size:Int))=true:=decide_eq_true c2
    clear c2
    by_cases c3 : 0≤x3_1
    ·rw[if_pos c3] at H
     have c3b0:decide (0≤x3_1)=true:=decide_eq_true c3
     clear c3
     replace H:=jq8.mp H
     obtain⟨t101,A50,H⟩:=H
     try dsimp only at H
     have A5:=X.mk A50
     clear A50
     by_cases c6:t101=true
     ·subst c6
      have H1:(qxq.l0 k1 a0 (wrap64 (x3_1 + 1)))=some r:=by rw[if_pos rfl] at H;exact H
      clear H
      have H:=H1
      clear H1
      have H':=X.mk H
      clear H
      have p4 : 0≤(x3_1:Int):=of_decide_eq_true (by assumption)
      have q4:x3_1 < (a0.size:Int):=of_decide_eq_true (by assumption)
      have hx4:=bt_at a0 x3_1
      replace p4:=eq_true p4
      replace q4:=eq_true q4
      go_wp2_with (first|((with_reducible refine zw (f:=66) rfl ?_);refine goesL_ (some 13) rfl rfl Try.func66 (by kernel_rfl) rfl #[.int .u8 (bt a0 x3_1)] rfl (by(try simp only[jq0,jq1,jq2]);first|done|rfl|(simp only[jq3,jq4];rfl)) ?_;(with_reducible refine(qwq.calls (bt a0 x3_1) true _ A5.out).mono ?_);rintro e w' ⟨rfl,⟨nd,rfl⟩⟩;refine⟨_,rfl,?_⟩))
      go_roundg k1
      case measure=>have:=HK1.out;omega
      case rel=>exact⟨(wrap64 (x3_1 + 1)),(by first|rfl|(simp;done)|(simp[*];done)),H',⟨by have:=HK1.out;omega⟩,by repeat(first|exact Drawn0.refl _|apply Drawn0.step)⟩
     ·replace c6:=jq9.mpr c6
      subst c6
      have H1:((qvx.f (bt a0 x3_1)).bind fun t102=>(if t102=true then(qxq.l0 k1 a0 (wrap64 (x3_1 + 1))) else(if (bt a0 x3_1)=95 then(qxq.l0 k1 a0 (wrap64 (x3_1 + 1))) else(if (bt a0 x3_1)=45 then(qxq.l0 k1 a0 (wrap64 (x3_1 + 1))) else(if (bt a0 x3_1)=46 then(qxq.l0 k1 a0 (wrap64 (x3_1 + 1))) else(some false))))))=some r:=by rw[if_neg (show ¬ (false=true) by decide)] at H;exact H
      clear H
      have H:=H1
      clear H1
      replace H:=jq8.mp H
      obtain⟨t102,A80,H⟩:=H
      try dsimp only at H
      have A8:=X.mk A80
      clear A80
      by_cases c9:t102=true
      ·subst c9
       have H1:(qxq.l0 k1 a0 (wrap64 (x3_1 + 1)))=some r:=by rw[if_pos rfl] at H;exact H
       clear H
       have H:=H1
       clear H1
       have H':=X.mk H
       clear H
       have p4 : 0≤(x3_1:Int):=of_decide_eq_true (by assumption)
       have q4:x3_1 < (a0.size:Int):=of_decide_eq_true (by assumption)
       have hx4:=bt_at a0 x3_1
       replace p4:=eq_true p4
       replace q4:=eq_true q4
       go_wp2_with (first|((with_reducible refine zw (f:=66) rfl ?_);refine goesL_ (some 13) rfl rfl Try.func66 (by kernel_rfl) rfl #[.int .u8 (bt a0 x3_1)] rfl (by(try simp only[jq0,jq1,jq2]);first|done|rfl|(simp only[jq3,jq4];rfl)) ?_;(with_reducible refine(qwq.calls (bt a0 x3_1) false _ A5.out).mono ?_);rintro e w' ⟨rfl,⟨nd,rfl⟩⟩;refine⟨_,rfl,?_⟩;have p7 : 0≤(x3_1:Int):=of_decide_eq_true (by assumption);have q7:x3_1 < (a0.size:Int):=of_decide_eq_true (by assumption);have hx7:=bt_at a0 x3_1;replace p7:=eq_true p7;replace q7:=eq_true q7)|(go_at_call 67;(with_reducible refine(qvx.calls (bt a0 x3_1) true _ A8.out).mono ?_);rintro e w' ⟨rfl,⟨nd,rfl⟩⟩))
       go_roundg k1
       case measure=>have:=HK1.out;omega
       case rel=>exact⟨(wrap64 (x3_1 + 1)),(by first|rfl|(simp;done)|(simp[*];done)),H',⟨by have:=HK1.out;omega⟩,by repeat(first|exact Drawn0.refl _|apply Drawn0.step)⟩
      ·replace c9:=jq9.mpr c9
       subst c9
       have H1:(if (bt a0 x3_1)=95 then(qxq.l0 k1 a0 (wrap64 (x3_1 + 1))) else(if (bt a0 x3_1)=45 then(qxq.l0 k1 a0 (wrap64 (x3_1 + 1))) else(if (bt a0 x3_1)=46 then(qxq.l0 k1 a0 (wrap64 (x3_1 + 1))) else(some false))))=some r:=by rw[if_neg (show ¬ (false=true) by decide)] at H;exact H
       clear H
       have H:=H1
       clear H1
       by_cases c11:(bt a0 x3_1)=95
       ·rw[if_pos c11] at H
        have c11b0:((bt a0 x3_1) == 95)=true:=beq_iff_eq.mpr c11
        have c11b1:((bt a0 x3_1) != 95)=false:=bne_eq_false_iff_eq.mpr c11
        clear c11
        have H':=X.mk H
        clear H
        have p4 : 0≤(x3_1:Int):=of_decide_eq_true (by assumption)
        have q4:x3_1 < (a0.size:Int):=of_decide_eq_true (by assumption)
        have hx4:=bt_at a0 x3_1
        replace p4:=eq_true p4
        replace q4:=eq_true q4
        go_wp2_with (first|((with_reducible refine zw (f:=66) rfl ?_);refine goesL_ (some 13) rfl rfl Try.func66 (by kernel_rfl) rfl #[.int .u8 (bt a0 x3_1)] rfl (by(try simp only[jq0,jq1,jq2]);first|done|rfl|(simp only[jq3,jq4];rfl)) ?_;(with_reducible refine(qwq.calls (bt a0 x3_1) false _ A5.out).mono ?_);rintro e w' ⟨rfl,⟨nd,rfl⟩⟩;refine⟨_,rfl,?_⟩;have p7 : 0≤(x3_1:Int):=of_decide_eq_true (by assumption);have q7:x3_1 < (a0.size:Int):=of_decide_eq_true (by assumption);have hx7:=bt_at a0 x3_1;replace p7:=eq_true p7;replace q7:=eq_true q7)|(go_at_call 67;(with_reducible refine(qvx.calls (bt a0 x3_1) false _ A8.out).mono ?_);rintro e w' ⟨rfl,⟨nd,rfl⟩⟩;have p10 : 0≤(x3_1:Int):=of_decide_eq_true (by assumption);have q10:x3_1 < (a0.size:Int):=of_decide_eq_true (by assumption);have hx10:=bt_at a0 x3_1;replace p10:=eq_true p10;replace q10:=eq_true q10))
        go_roundg k1
        case measure=>have:=HK1.out;omega
        case rel=>exact⟨(wrap64 (x3_1 + 1)),(by first|rfl|(simp;done)|(simp[*];done)),H',⟨by have:=HK1.out;omega⟩,by repeat(first|exact Drawn0.refl _|apply Drawn0.step)⟩
       ·rw[if_neg c11] at H
        have c11b0:((bt a0 x3_1) == 95)=false:=beq_eq_false_iff_ne.mpr c11
        have c11b1:((bt a0 x3_1) != 95)=true:=bne_iff_ne.mpr c11
        by_cases c13:(bt a0 x3_1)=45
        ·rw[if_pos c13] at H
         have c13b0:((bt a0 x3_1) == 45)=true:=beq_iff_eq.mpr c13
         have c13b1:((bt a0 x3_1) != 45)=false:=bne_eq_false_iff_eq.mpr c13
         clear c13
         have H':=X.mk H
         clear H
         have p4 : 0≤(x3_1:Int):=of_decide_eq_true (by assumption)
         have q4:x3_1 < (a0.size:Int):=of_decide_eq_true (by assumption)
         have hx4:=bt_at a0 x3_1
         replace p4:=eq_true p4
         replace q4:=eq_true q4
         go_wp2_with (first|((with_reducible refine zw (f:=66) rfl ?_);refine goesL_ (some 13) rfl rfl Try.func66 (by kernel_rfl) rfl #[.int .u8 (bt a0 x3_1)] rfl (by(try simp only[jq0,jq1,jq2]);first|done|rfl|(simp only[jq3,jq4];rfl)) ?_;(with_reducible refine(qwq.calls (bt a0 x3_1) false _ A5.out).mono ?_);rintro e w' ⟨rfl,⟨nd,rfl⟩⟩;refine⟨_,rfl,?_⟩;have p7 : 0≤(x3_1:Int):=of_decide_eq_true (by assumption);have q7:x3_1 < (a0.size:Int):=of_decide_eq_true (by assumption);have hx7:=bt_at a0 x3_1;replace p7:=eq_true p7;replace q7:=eq_true q7)|(go_at_call 67;(with_reducible refine(qvx.calls (bt a0 x3_1) false _ A8.out).mono ?_);rintro e w' ⟨rfl,⟨nd,rfl⟩⟩;have p10 : 0≤(x3_1:Int):=of_decide_eq_true (by assumption);have q10:x3_1 < (a0.size:Int):=of_decide_eq_true (by assumption);have hx10:=bt_at a0 x3_1;replace p10:=eq_true p10;replace q10:=eq_true q10;have p12 : 0≤(x3_1:Int):=of_decide_eq_true (by assumption);have q12:x3_1 < (a0.size:Int):=of_decide_eq_true (by assumption);have hx12:=bt_at a0 x3_1;replace p12:=eq_true p12;replace q12:=eq_true q12))
         go_roundg k1
         case measure=>have:=HK1.out;omega
         case rel=>exact⟨(wrap64 (x3_1 + 1)),(by first|rfl|(simp;done)|(simp[*];done)),H',⟨by have:=HK1.out;omega⟩,by repeat(first|exact Drawn0.refl _|apply Drawn0.step)⟩
        ·rw[if_neg c13] at H
         have c13b0:((bt a0 x3_1) == 45)=false:=beq_eq_false_iff_ne.mpr c13
         have c13b1:((bt a0 x3_1) != 45)=true:=bne_iff_ne.mpr c13
         by_cases c15:(bt a0 x3_1)=46
         ·rw[if_pos c15] at H
          have c15b0:((bt a0 x3_1) == 46)=true:=beq_iff_eq.mpr c15
          have c15b1:((bt a0 x3_1) != 46)=false:=bne_eq_false_iff_eq.mpr c15
          clear c15
          have H':=X.mk H
          clear H
          have p4 : 0≤(x3_1:Int):=of_decide_eq_true (by assumption)
          have q4:x3_1 < (a0.size:Int):=of_decide_eq_true (by assumption)
          have hx4:=bt_at a0 x3_1
          replace p4:=eq_true p4
          replace q4:=eq_true q4
          go_wp2_with (first|((with_reducible refine zw (f:=66) rfl ?_);refine goesL_ (some 13) rfl rfl Try.func66 (by kernel_rfl) rfl #[.int .u8 (bt a0 x3_1)] rfl (by(try simp only[jq0,jq1,jq2]);first|done|rfl|(simp only[jq3,jq4];rfl)) ?_;(with_reducible refine(qwq.calls (bt a0 x3_1) false _ A5.out).mono ?_);rintro e w' ⟨rfl,⟨nd,rfl⟩⟩;refine⟨_,rfl,?_⟩;have p7 : 0≤(x3_1:Int):=of_decide_eq_true (by assumption);have q7:x3_1 < (a0.size:Int):=of_decide_eq_true (by assumption);have hx7:=bt_at a0 x3_1;replace p7:=eq_true p7;replace q7:=eq_true q7)|(go_at_call 67;(with_reducible refine(qvx.calls (bt a0 x3_1) false _ A8.out).mono ?_);rintro e w' ⟨rfl,⟨nd,rfl⟩⟩;have p10 : 0≤(x3_1:Int):=of_decide_eq_true (by assumption);have q10:x3_1 < (a0.size:Int):=of_decide_eq_true (by assumption);have hx10:=bt_at a0 x3_1;replace p10:=eq_true p10;replace q10:=eq_true q10;have p12 : 0≤(x3_1:Int):=of_decide_eq_true (by assumption);have q12:x3_1 < (a0.size:Int):=of_decide_eq_true (by assumption);have hx12:=bt_at a0 x3_1;replace p12:=eq_true p12;replace q12:=eq_true q12;have p14 : 0≤(x3_1:Int):=of_decide_eq_true (by assumption);have q14:x3_1 < (a0.size:Int):=of_decide_eq_true (by assumption);have hx14:=bt_at a0 x3_1;replace p14:=eq_true p14;replace q14:=eq_true q14))
          go_roundg k1
          case measure=>have:=HK1.out;omega
          case rel=>exact⟨(wrap64 (x3_1 + 1)),(by first|rfl|(simp;done)|(simp[*];done)),H',⟨by have:=HK1.out;omega⟩,by repeat(first|exact Drawn0.refl _|apply Drawn0.step)⟩
         ·rw[if_neg c15] at H
          have c15b0:((bt a0 x3_1) == 46)=false:=beq_eq_false_iff_ne.mpr c15
          have c15b1:((bt a0 x3_1) != 46)=true:=bne_iff_ne.mpr c15
          obtain rfl:=Option.some.inj H
          have p4 : 0≤(x3_1:Int):=of_decide_eq_true (by assumption)
          have q4:x3_1 < (a0.size:Int):=of_decide_eq_true (by assumption)
          have hx4:=bt_at a0 x3_1
          replace p4:=eq_true p4
          replace q4:=eq_true q4
          go_wp2_with (first|((with_reducible refine zw (f:=66) rfl ?_);refine goesL_ (some 13) rfl rfl Try.func66 (by kernel_rfl) rfl #[.int .u8 (bt a0 x3_1)] rfl (by(try simp only[jq0,jq1,jq2]);first|done|rfl|(simp only[jq3,jq4];rfl)) ?_;(with_reducible refine(qwq.calls (bt a0 x3_1) false _ A5.out).mono ?_);rintro e w' ⟨rfl,⟨nd,rfl⟩⟩;refine⟨_,rfl,?_⟩;have p7 : 0≤(x3_1:Int):=of_decide_eq_true (by assumption);have q7:x3_1 < (a0.size:Int):=of_decide_eq_true (by assumption);have hx7:=bt_at a0 x3_1;replace p7:=eq_true p7;replace q7:=eq_true q7)|(go_at_call 67;(with_reducible refine(qvx.calls (bt a0 x3_1) false _ A8.out).mono ?_);rintro e w' ⟨rfl,⟨nd,rfl⟩⟩;have p10 : 0≤(x3_1:Int):=of_decide_eq_true (by assumption);have q10:x3_1 < (a0.size:Int):=of_decide_eq_true (by assumption);have hx10:=bt_at a0 x3_1;replace p10:=eq_true p10;replace q10:=eq_true q10;have p12 : 0≤(x3_1:Int):=of_decide_eq_true (by assumption);have q12:x3_1 < (a0.size:Int):=of_decide_eq_true (by assumption);have hx12:=bt_at a0 x3_1;replace p12:=eq_true p12;replace q12:=eq_true q12;have p14 : 0≤(x3_1:Int):=of_decide_eq_true (by assumption);have q14:x3_1 < (a0.size:Int):=of_decide_eq_true (by assumption);have hx14:=bt_at a0 x3_1;replace p14:=eq_true p14;replace q14:=eq_true q14))
          go_ret
          exact⟨by first|rfl|(simp;done)|(simp[*];done),by repeat(first|exact Drawn0.refl _|apply Drawn0.step)⟩
    ·rw[if_neg c3] at H
     exact absurd H (by simp)
   ·rw[if_neg c2] at H
    have c2b0:decide (x3_1 < (a0.size:Int))=false:=decide_eq_false c2
    clear c2
    by_cases c16:(a0.size:Int) ≥ 1
    ·rw[if_pos c16] at H
     have c16b0:decide (1≤(a0.size:Int))=true:=decide_eq_true c16
     have c16b1:decide (1≤a0.size)=true:=decide_eq_true (by omega)
     clear c16
     obtain rfl:=Option.some.inj H
     go_wp2
     go_ret
     exact⟨by first|rfl|(simp;done)|(simp[*];done),by repeat(first|exact Drawn0.refl _|apply Drawn0.step)⟩
    ·rw[if_neg c16] at H
     have c16b0:decide (1≤(a0.size:Int))=false:=decide_eq_false c16
     have c16b1:decide (1≤a0.size)=false:=decide_eq_false (by omega)
     clear c16
     obtain rfl:=Option.some.inj H
     go_wp2
     go_ret
     exact⟨by first|rfl|(simp;done)|(simp[*];done),by repeat(first|exact Drawn0.refl _|apply Drawn0.step)⟩
def qvv.f (a0:Int) (a1:Int):Option (Int):=if a0 < a1 then(some (-1)) else(if a0 > a1 then(some 1) else(some 0))
theorem qvv.calls (a0:Int) (a1:Int) (r:Int) (w:World) (h:qvv.f a0 a1=some r) :
  Calls Try.prog 68 #[.int .i64 a0,.int .i64 a1] w fun e w'=>e=.returned (.int .i64 r)∧Drawn0 w w':=by
 unfold qvv.f at h
 have H:=h
 clear h
 by_cases c3:a0 < a1
 ·rw[if_pos c3] at H
  have c3b0:decide (a0 < a1)=true:=decide_eq_true c3
  clear c3
  obtain rfl:=Option.some.inj H
  go_enter Try.func68,Try.ntmps68
  go_wp2
  go_ret
  exact⟨by first|rfl|(simp;done)|(simp[*];done),by repeat(first|exact Drawn0.refl _|apply Drawn0.step)⟩
 ·rw[if_neg c3] at H
  have c3b0:decide (a0 < a1)=false:=decide_eq_false c3
  clear c3
  by_cases c4:a0 > a1
  ·rw[if_pos c4] at H
   have c4b0:decide (a1 < a0)=true:=decide_eq_true c4
   clear c4
   obtain rfl:=Option.some.inj H
   go_enter Try.func68,Try.ntmps68
   go_wp2
   go_ret
   exact⟨by first|rfl|(simp;done)|(simp[*];done),by repeat(first|exact Drawn0.refl _|apply Drawn0.step)⟩
  ·rw[if_neg c4] at H
   have c4b0:decide (a1 < a0)=false:=decide_eq_false c4
   clear c4
   obtain rfl:=Option.some.inj H
   go_enter Try.func68,Try.ntmps68
   go_wp2
   go_ret
   exact⟨by first|rfl|(simp;done)|(simp[*];done),by repeat(first|exact Drawn0.refl _|apply Drawn0.step)⟩
mutual
def qvw.l0:Nat→ByteArray→ByteArray→Int→Option (Int)
 | 0,_,_,_=>none
 | k + 1,x0,x1,x5=>if x5 < (x0.size:Int) then(qvw.j1 k x0 x1 x5 (decide (x5 < (x1.size:Int)))) else(qvw.j1 k x0 x1 x5 false)
def qvw.j1:Nat→ByteArray→ByteArray→Int→Bool→Option (Int)
 | 0,_,_,_,_=>none
 | k + 1,x0,x1,x5,x15=>if x15=true then(if 0≤x5 then(if x5 < (x0.size:Int) then(if x5 < (x1.size:Int) then(if (bt x0 x5)=(bt x1 x5) then(qvw.l0 k x0 x1 (wrap64 (x5 + 1))) else((qvv.f (wrap64 (bt x0 x5)) (wrap64 (bt x1 x5))).bind fun t101=>(some t101))) else(none)) else(none)) else(none)) else((qvv.f (x0.size:Int) (x1.size:Int)).bind fun t102=>(some t102))
end
def qvw.f (k:Nat) (a0:ByteArray) (a1:ByteArray):Option (Int):=qvw.l0 k a0 a1 0
theorem qvw.calls (k:Nat) (a0:ByteArray) (a1:ByteArray) (r:Int) (w:World) (h:qvw.f k a0 a1=some r) :
  Calls Try.prog 38 #[.string a0,.string a1] w fun e w'=>e=.returned (.int .i64 r)∧Drawn0 w w':=by
 have H:(qvw.l0 k a0 a1 0)=some r:=h
 clear h
 have H':=X.mk H
 clear H
 go_enter Try.func38,Try.ntmps38
 go_wp2
 repeat(go_quiet (fail);try go_wp2)
 go_loopg [5] k (fun kq v5 w'=>∃ (x5_1:Int),v5=.int .i64 x5_1∧X (qvw.l0 kq a0 a1 x5_1=some r)∧X (kq≤k)∧Drawn0 w w')
 case atStart=>exact⟨(0),(by first|rfl|(simp;done)|(simp[*];done)),H',⟨Nat.le_refl _⟩,by repeat(first|exact Drawn0.refl _|apply Drawn0.step)⟩
 case round =>
  clear H'
  try clear p2
  obtain⟨x5_1,rfl,HA,HK1,⟨m1,rfl⟩⟩:=hrel
  cases gk with
  | zero=>exact absurd HA.out (by simp[qvw.l0])
  | succ k1 =>
   have H:=HA.out
   clear HA
   simp only[qvw.l0] at H
   have HC3:=X.mk H
   clear H
   go_upto_region 2 with (fail)
   repeat(go_quiet (fail);go_upto_region 2 with (fail))
   go_cut [15] (fun v15 wc=>∃ (kq:Nat) (x15_2:Bool),v15=.bool x15_2∧X (qvw.j1 kq a0 a1 x5_1 x15_2=some r)∧X (kq≤k1)∧Drawn0 w wc)
   case first =>
    have H:=HC3.out
    clear HC3
    by_cases c4:x5_1 < (a0.size:Int)
    ·rw[if_pos c4] at H
     have c4b0:decide (x5_1 < (a0.size:Int))=true:=decide_eq_true c4
     clear c4
     (first|rw[c4b0]|(simp only[i64_w,i32_w];rw[c4b0])|skip)
     have H':=X.mk H
     clear H
     go_wp2
     repeat(go_quiet (fail);try go_wp2)
     go_meet
     case rel=>exact⟨_,(decide (x5_1 < (a1.size:Int))),(by first|rfl|(simp;done)|(simp[*];done)),H',⟨by have:=HK1.out;first|omega|exact Nat.le_refl _⟩,by repeat(first|exact Drawn0.refl _|apply Drawn0.step)⟩
    ·rw[if_neg c4] at H
     have c4b0:decide (x5_1 < (a0.size:Int))=false:=decide_eq_false c4
     clear c4
     (first|rw[c4b0]|(simp only[i64_w,i32_w];rw[c4b0])|skip)
     have H':=X.mk H
     clear H
     go_wp2
     repeat(go_quiet (fail);try go_wp2)
     go_meet
     case rel=>exact⟨_,(false),(by first|rfl|(simp;done)|(simp[*];done)),H',⟨by have:=HK1.out;first|omega|exact Nat.le_refl _⟩,by repeat(first|exact Drawn0.refl _|apply Drawn0.step)⟩
   case rest =>
    clear HC3
    try clear p2
    try clear c3
    try clear c4
    try clear c4b0
    try clear p2
    obtain⟨kq,x15_2,rfl,HA,HJ2,⟨mc2,rfl⟩⟩:=hcut
    cases kq with
    | zero=>exact absurd HA.out (by simp[qvw.j1])
    | succ kj2 =>
     have H:=HA.out
     clear HA
     simp only[qvw.j1] at H
     by_cases c5:x15_2=true
     ·subst c5
      have H1:(if 0≤x5_1 then(if x5_1 < (a0.size:Int) then(if x5_1 < (a1.size:Int) then(if (bt a0 x5_1)=(bt a1 x5_1) then(qvw.l0 kj2 a0 a1 (wrap64 (x5_1 + 1))) else((qvv.f (wrap64 (bt a0 x5_1)) (wrap64 (bt a1 x5_1))).bind fun t101=>(some t101))) else(none)) else(none)) else(none))=some r:=by rw[if_pos rfl] at H;exact H
      clear H
      have H:=H1
      clear H1
      by_cases c6 : 0≤x5_1
      ·rw[if_pos c6] at H
       have c6b0:decide (0≤x5_1)=true:=decide_eq_true c6
       clear c6
       by_cases c7:x5_1 < (a0.size:Int)
       ·rw[if_pos c7] at H
        have c7b0:decide (x5_1 < (a0.size:Int))=true:=decide_eq_true c7
        clear c7
        by_cases c9:x5_1 < (a1.size:Int)
        ·rw[if_pos c9] at H
         have c9b0:decide (x5_1 < (a1.size:Int))=true:=decide_eq_true c9
         clear c9
         by_cases c11:(bt a0 x5_1)=(bt a1 x5_1)
         ·rw[if_pos c11] at H
          have c11b0:((bt a0 x5_1) == (bt a1 x5_1))=true:=beq_iff_eq.mpr c11
          have c11b1:((bt a0 x5_1) != (bt a1 x5_1))=false:=bne_eq_false_iff_eq.mpr c11
          clear c11
          have H':=X.mk H
          clear H
          have p8 : 0≤(x5_1:Int):=of_decide_eq_true (by assumption)
          have q8:x5_1 < (a0.size:Int):=of_decide_eq_true (by assumption)
          have hx8:=bt_at a0 x5_1
          replace p8:=eq_true p8
          replace q8:=eq_true q8
          have p10 : 0≤(x5_1:Int):=of_decide_eq_true (by assumption)
          have q10:x5_1 < (a1.size:Int):=of_decide_eq_true (by assumption)
          have hx10:=bt_at a1 x5_1
          replace p10:=eq_true p10
          replace q10:=eq_true q10
          go_wp2
          repeat(go_quiet (fail);try go_wp2)
          go_roundg kj2
          case measure=>have:=HK1.out;have:=HJ2.out;omega
          case rel=>exact⟨(wrap64 (x5_1 + 1)),(by first|rfl|(simp;done)|(simp[*];done)),H',⟨by have:=HK1.out;have:=HJ2.out;omega⟩,by repeat(first|exact Drawn0.refl _|apply Drawn0.step)⟩
         ·rw[if_neg c11] at H
          have c11b0:((bt a0 x5_1) == (bt a1 x5_1))=false:=beq_eq_false_iff_ne.mpr c11
          have c11b1:((bt a0 x5_1) != (bt a1 x5_1))=true:=bne_iff_ne.mpr c11
          replace H:=jq8.mp H
          obtain⟨t101,A140,H⟩:=H
          replace H:(some t101)=some r:=H
          have A14:=X.mk A140
          clear A140
          obtain rfl:=Option.some.inj H
          have p8 : 0≤(x5_1:Int):=of_decide_eq_true (by assumption)
          have q8:x5_1 < (a0.size:Int):=of_decide_eq_true (by assumption)
          have hx8:=bt_at a0 x5_1
          replace p8:=eq_true p8
          replace q8:=eq_true q8
          have p10 : 0≤(x5_1:Int):=of_decide_eq_true (by assumption)
          have q10:x5_1 < (a1.size:Int):=of_decide_eq_true (by assumption)
          have hx10:=bt_at a1 x5_1
          replace p10:=eq_true p10
          replace q10:=eq_true q10
          have p12 : 0≤(x5_1:Int):=of_decide_eq_true (by assumption)
          have q12:x5_1 < (a0.size:Int):=of_decide_eq_true (by assumption)
          have hx12:=bt_at a0 x5_1
          replace p12:=eq_true p12
          replace q12:=eq_true q12
          have p13 : 0≤(x5_1:Int):=of_decide_eq_true (by assumption)
          have q13:x5_1 < (a1.size:Int):=of_decide_eq_true (by assumption)
          have hx13:=bt_at a1 x5_1
          replace p13:=eq_true p13
          replace q13:=eq_true q13
          go_wp2_with (first|(go_at_call 68;(with_reducible refine(qvv.calls (wrap64 (bt a0 x5_1)) (wrap64 (bt a1 x5_1)) t101 _ A14.out).mono ?_);rintro e w' ⟨rfl,⟨nd,rfl⟩⟩;(try first|exact⟨rfl,_,World.drewN_drewN _ _ _⟩|exact⟨rfl,_,Eq.trans (World.drewN_drewN _ _ _) (congrArg (World.drewN _) (Nat.add_assoc _ _ _))⟩)))
          repeat(go_quiet (first|(go_at_call 68;(with_reducible refine(qvv.calls (wrap64 (bt a0 x5_1)) (wrap64 (bt a1 x5_1)) t101 _ A14.out).mono ?_);rintro e w' ⟨rfl,⟨nd,rfl⟩⟩;(try first|exact⟨rfl,_,World.drewN_drewN _ _ _⟩|exact⟨rfl,_,Eq.trans (World.drewN_drewN _ _ _) (congrArg (World.drewN _) (Nat.add_assoc _ _ _))⟩)));try go_wp2_with (first|(go_at_call 68;(with_reducible refine(qvv.calls (wrap64 (bt a0 x5_1)) (wrap64 (bt a1 x5_1)) t101 _ A14.out).mono ?_);rintro e w' ⟨rfl,⟨nd,rfl⟩⟩;(try first|exact⟨rfl,_,World.drewN_drewN _ _ _⟩|exact⟨rfl,_,Eq.trans (World.drewN_drewN _ _ _) (congrArg (World.drewN _) (Nat.add_assoc _ _ _))⟩))))
          go_ret
          exact⟨by first|rfl|(simp;done)|(simp[*];done),by repeat(first|exact Drawn0.refl _|apply Drawn0.step)⟩
        ·rw[if_neg c9] at H
         exact absurd H (by simp)
       ·rw[if_neg c7] at H
        exact absurd H (by simp)
      ·rw[if_neg c6] at H
       exact absurd H (by simp)
     ·replace c5:=jq9.mpr c5
      subst c5
      have H1:((qvv.f (a0.size:Int) (a1.size:Int)).bind fun t102=>(some t102))=some r:=by rw[if_neg (show ¬ (false=true) by decide)] at H;exact H
      clear H
      have H:=H1
      clear H1
      replace H:=jq8.mp H
      obtain⟨t102,A150,H⟩:=H
      replace H:(some t102)=some r:=H
      have A15:=X.mk A150
      clear A150
      obtain rfl:=Option.some.inj H
      go_wp2_with (first|(go_at_call 68;(with_reducible refine(qvv.calls (a0.size:Int) (a1.size:Int) t102 _ A15.out).mono ?_);rintro e w' ⟨rfl,⟨nd,rfl⟩⟩;(try first|exact⟨rfl,_,World.drewN_drewN _ _ _⟩|exact⟨rfl,_,Eq.trans (World.drewN_drewN _ _ _) (congrArg (World.drewN _) (Nat.add_assoc _ _ _))⟩)))
      repeat(go_quiet (first|(go_at_call 68;(with_reducible refine(qvv.calls (a0.size:Int) (a1.size:Int) t102 _ A15.out).mono ?_);rintro e w' ⟨rfl,⟨nd,rfl⟩⟩;(try first|exact⟨rfl,_,World.drewN_drewN _ _ _⟩|exact⟨rfl,_,Eq.trans (World.drewN_drewN _ _ _) (congrArg (World.drewN _) (Nat.add_assoc _ _ _))⟩)));try go_wp2_with (first|(go_at_call 68;(with_reducible refine(qvv.calls (a0.size:Int) (a1.size:Int) t102 _ A15.out).mono ?_);rintro e w' ⟨rfl,⟨nd,rfl⟩⟩;(try first|exact⟨rfl,_,World.drewN_drewN _ _ _⟩|exact⟨rfl,_,Eq.trans (World.drewN_drewN _ _ _) (congrArg (World.drewN _) (Nat.add_assoc _ _ _))⟩))))
      go_ret
      exact⟨by first|rfl|(simp;done)|(simp[*];done),by repeat(first|exact Drawn0.refl _|apply Drawn0.step)⟩
end Go.Proofs.Ytakocdkcfjkmdaa.Pr
namespace Go.Proofs.Ytakocdkcfjkmdaa.Pr
open Go.RowKit Go.Proofs.YtakocdkcfjkmdaaW.PrintWords Go.Proofs.YtakocdkcfjkmdaaW.PrintLast Go.Proofs.YtakocdkcfjkmdaaW.PrintMore
attribute [local go_sem] max2_int min2_int max_two min_two max_three min_three max_four min_four
set_option linter.unusedVariables false
set_option linter.unusedSimpArgs false
mutual
def qvq.j0:Nat→ByteArray→Bool→Option (Bool)
 | 0,_,_=>none
 | k + 1,x0,x16=>if x16=true then(some false) else(qvq.l0 k x0 0)
def qvq.l0:Nat→ByteArray→Int→Option (Bool)
 | 0,_,_=>none
 | k + 1,x0,x3=>if x3 < (x0.size:Int) then(if 0≤x3 then((qwq.f (bt x0 x3)).bind fun t102=>(if t102=true then(qvq.l0 k x0 (wrap64 (x3 + 1))) else((qvx.f (bt x0 x3)).bind fun t103=>(if t103=true then(qvq.l0 k x0 (wrap64 (x3 + 1))) else(if (bt x0 x3)=95 then(qvq.l0 k x0 (wrap64 (x3 + 1))) else(some false)))))) else(none)) else(some true)
end
def qvq.f (k:Nat) (a0:ByteArray):Option (Bool):=if (a0.size:Int) < 1 then(qvq.j0 k a0 true) else(if (a0.size:Int) > 30 then(qvq.j0 k a0 true) else(if 0 < (a0.size:Int) then((qvx.f (bt a0 0)).bind fun t101=>(qvq.j0 k a0 t101)) else(none)))
theorem qvq.calls (k:Nat) (a0:ByteArray) (r:Bool) (w:World) (h:qvq.f k a0=some r) :
  Calls Try.prog 73 #[.string a0] w fun e w'=>e=.returned (.bool r)∧Drawn0 w w':=by
 unfold qvq.f at h
 have H:=h
 clear h
 have HC2:=X.mk H
 clear H
 go_enter Try.func73,Try.ntmps73
 go_upto_region 1 with (fail)
 go_cut [16] (fun v16 wc=>∃ (kq:Nat) (x16_1:Bool),v16=.bool x16_1∧X (qvq.j0 kq a0 x16_1=some r)∧X (kq≤k)∧Drawn0 w wc)
 case first =>
  have H:=HC2.out
  clear HC2
  by_cases c3:(a0.size:Int) < 1
  ·rw[if_pos c3] at H
   have c3b0:decide ((a0.size:Int) < 1)=true:=decide_eq_true c3
   have c3b1:decide (a0.size < 1)=true:=decide_eq_true (by omega)
   clear c3
   (first|rw[c3b0]|(simp only[i64_w,i32_w];rw[c3b0])|skip)
   have H':=X.mk H
   clear H
   go_wp2
   go_meet
   case rel=>exact⟨_,(true),(by first|rfl|(simp;done)|(simp[*];done)),H',⟨by first|omega|exact Nat.le_refl _⟩,by repeat(first|exact Drawn0.refl _|apply Drawn0.step)⟩
  ·rw[if_neg c3] at H
   have c3b0:decide ((a0.size:Int) < 1)=false:=decide_eq_false c3
   have c3b1:decide (a0.size < 1)=false:=decide_eq_false (by omega)
   clear c3
   (first|rw[c3b0]|(simp only[i64_w,i32_w];rw[c3b0])|skip)
   by_cases c4:(a0.size:Int) > 30
   ·rw[if_pos c4] at H
    have c4b0:decide (30 < (a0.size:Int))=true:=decide_eq_true c4
    have c4b1:decide (30 < a0.size)=true:=decide_eq_true (by omega)
    clear c4
    have H':=X.mk H
    clear H
    go_wp2
    go_meet
    case rel=>exact⟨_,(true),(by first|rfl|(simp;done)|(simp[*];done)),H',⟨by first|omega|exact Nat.le_refl _⟩,by repeat(first|exact Drawn0.refl _|apply Drawn0.step)⟩
   ·rw[if_neg c4] at H
    have c4b0:decide (30 < (a0.size:Int))=false:=decide_eq_false c4
    have c4b1:decide (30 < a0.size)=false:=decide_eq_false (by omega)
    clear c4
    by_cases c5 : 0 < (a0.size:Int)
    ·rw[if_pos c5] at H
     have c5b0:decide (0 < (a0.size:Int))=true:=decide_eq_true c5
     have c5b1:decide (0 < a0.size)=true:=decide_eq_true (by omega)
     clear c5
     replace H:=jq8.mp H
     obtain⟨t101,A70,H⟩:=H
     replace H:(qvq.j0 k a0 t101)=some r:=H
     have A7:=X.mk A70
     clear A70
     have H':=X.mk H
     clear H
     have p6 : 0≤(0:Int):=(by omega)
     have q6 : 0 < a0.size:=(by have:(0:Int) < (a0.size:Int):=of_decide_eq_true (by assumption);omega)
     have hx6:∀ h : 0 < a0.size,((a0[0]'h).toNat:Int)=bt a0 0:=bt_at a0 0
     clear p6
     have qi6:(0 < (a0.size:Int))=True:=eq_true (of_decide_eq_true (by assumption))
     replace q6:=eq_true q6
     go_wp2_with (first|(go_at_call 67;(with_reducible refine(qvx.calls (bt a0 0) t101 _ A7.out).mono ?_);rintro e w' ⟨rfl,⟨nd,rfl⟩⟩))
     go_meet
     case rel=>exact⟨_,(t101),(by first|rfl|(simp;done)|(simp[*];done)),H',⟨by first|omega|exact Nat.le_refl _⟩,by repeat(first|exact Drawn0.refl _|apply Drawn0.step)⟩
    ·rw[if_neg c5] at H
     exact absurd H (by simp)
 case rest =>
  clear HC2
  try clear p2
  try clear c3
  try clear c3b0
  try clear c3b1
  try clear c4
  try clear c4b0
  try clear c4b1
  try clear c5
  try clear c5b0
  try clear c5b1
  try clear p6
  try clear q6
  try clear hx6
  try clear qi6
  try clear c7
  try clear p6
  try clear q6
  obtain⟨kq,x16_1,rfl,HA,HJ1,⟨mc1,rfl⟩⟩:=hcut
  cases kq with
  | zero=>exact absurd HA.out (by simp[qvq.j0])
  | succ kj1 =>
   have H:=HA.out
   clear HA
   simp only[qvq.j0] at H
   by_cases c8:x16_1=true
   ·subst c8
    have H1:(some false)=some r:=by rw[if_pos rfl] at H;exact H
    clear H
    have H:=H1
    clear H1
    obtain rfl:=Option.some.inj H
    go_wp2
    go_ret
    exact⟨by first|rfl|(simp;done)|(simp[*];done),by repeat(first|exact Drawn0.refl _|apply Drawn0.step)⟩
   ·replace c8:=jq9.mpr c8
    subst c8
    have H1:(qvq.l0 kj1 a0 0)=some r:=by rw[if_neg (show ¬ (false=true) by decide)] at H;exact H
    clear H
    have H:=H1
    clear H1
    have H':=X.mk H
    clear H
    go_wp2
    go_loopg [3] kj1 (fun kq v3 w'=>∃ (x3_2:Int),v3=.int .i64 x3_2∧X (qvq.l0 kq a0 x3_2=some r)∧X (kq≤kj1)∧Drawn0 w w')
    case atStart=>exact⟨(0),(by first|rfl|(simp;done)|(simp[*];done)),H',⟨Nat.le_refl _⟩,by repeat(first|exact Drawn0.refl _|apply Drawn0.step)⟩
    case round =>
     clear H'
     try clear c1
     try clear p2
     try clear c3
     try clear c3b0
     try clear c3b1
     try clear c4
     try clear c4b0
     try clear c4b1
     try clear c5
     try clear c5b0
     try clear c5b1
     try clear p6
     try clear q6
     try clear hx6
     try clear qi6
     try clear c7
     try clear c8
     try clear p2
     try clear p6
     try clear q6
     obtain⟨x3_2,rfl,HA,HK2,⟨m2,rfl⟩⟩:=hrel
     cases gk with
     | zero=>exact absurd HA.out (by simp[qvq.l0])
     | succ k2 =>
      have H:=HA.out
      clear HA
      simp only[qvq.l0] at H
      by_cases c9:x3_2 < (a0.size:Int)
      ·rw[if_pos c9] at H
       have c9b0:decide (x3_2 < (a0.size:Int))=true:=decide_eq_true c9
       clear c9
       by_cases c10 : 0≤x3_2
       ·rw[if_pos c10] at H
        have c10b0:decide (0≤x3_2)=true:=decide_eq_true c10
        clear c10
        replace H:=jq8.mp H
        obtain⟨t102,A120,H⟩:=H
        try dsimp only at H
        have A12:=X.mk A120
        clear A120
        by_cases c13:t102=true
        ·subst c13
         have H1:(qvq.l0 k2 a0 (wrap64 (x3_2 + 1)))=some r:=by rw[if_pos rfl] at H;exact H
         clear H
         have H:=H1
         clear H1
         have H':=X.mk H
         clear H
         have p11 : 0≤(x3_2:Int):=of_decide_eq_true (by assumption)
         have q11:x3_2 < (a0.size:Int):=of_decide_eq_true (by assumption)
         have hx11:=bt_at a0 x3_2
         replace p11:=eq_true p11
         replace q11:=eq_true q11
         go_wp2_with (first|((with_reducible refine zw (f:=66) rfl ?_);refine goesL_ (some 26) rfl rfl Try.func66 (by kernel_rfl) rfl #[.int .u8 (bt a0 x3_2)] rfl (by(try simp only[jq0,jq1,jq2]);first|done|rfl|(simp only[jq3,jq4];rfl)) ?_;(with_reducible refine(qwq.calls (bt a0 x3_2) true _ A12.out).mono ?_);rintro e w' ⟨rfl,⟨nd,rfl⟩⟩;refine⟨_,rfl,?_⟩))
         go_roundg k2
         case measure=>have:=HJ1.out;have:=HK2.out;omega
         case rel=>exact⟨(wrap64 (x3_2 + 1)),(by first|rfl|(simp;done)|(simp[*];done)),H',⟨by have:=HJ1.out;have:=HK2.out;omega⟩,by repeat(first|exact Drawn0.refl _|apply Drawn0.step)⟩
        ·replace c13:=jq9.mpr c13
         subst c13
         have H1:((qvx.f (bt a0 x3_2)).bind fun t103=>(if t103=true then(qvq.l0 k2 a0 (wrap64 (x3_2 + 1))) else(if (bt a0 x3_2)=95 then(qvq.l0 k2 a0 (wrap64 (x3_2 + 1))) else(some false))))=some r:=by rw[if_neg (show ¬ (false=true) by decide)] at H;exact H
         clear H
         have H:=H1
         clear H1
         replace H:=jq8.mp H
         obtain⟨t103,A150,H⟩:=H
         try dsimp only at H
         have A15:=X.mk A150
         clear A150
         by_cases c16:t103=true
         ·subst c16
          have H1:(qvq.l0 k2 a0 (wrap64 (x3_2 + 1)))=some r:=by rw[if_pos rfl] at H;exact H
          clear H
          have H:=H1
          clear H1
          have H':=X.mk H
          clear H
          have p11 : 0≤(x3_2:Int):=of_decide_eq_true (by assumption)
          have q11:x3_2 < (a0.size:Int):=of_decide_eq_true (by assumption)
          have hx11:=bt_at a0 x3_2
          replace p11:=eq_true p11
          replace q11:=eq_true q11
          go_wp2_with (first|((with_reducible refine zw (f:=66) rfl ?_);refine goesL_ (some 26) rfl rfl Try.func66 (by kernel_rfl) rfl #[.int .u8 (bt a0 x3_2)] rfl (by(try simp only[jq0,jq1,jq2]);first|done|rfl|(simp only[jq3,jq4];rfl)) ?_;(with_reducible refine(qwq.calls (bt a0 x3_2) false _ A12.out).mono ?_);rintro e w' ⟨rfl,⟨nd,rfl⟩⟩;refine⟨_,rfl,?_⟩;have p14 : 0≤(x3_2:Int):=of_decide_eq_true (by assumption);have q14:x3_2 < (a0.size:Int):=of_decide_eq_true (by assumption);have hx14:=bt_at a0 x3_2;replace p14:=eq_true p14;replace q14:=eq_true q14)|(go_at_call 67;(with_reducible refine(qvx.calls (bt a0 x3_2) true _ A15.out).mono ?_);rintro e w' ⟨rfl,⟨nd,rfl⟩⟩))
          go_roundg k2
          case measure=>have:=HJ1.out;have:=HK2.out;omega
          case rel=>exact⟨(wrap64 (x3_2 + 1)),(by first|rfl|(simp;done)|(simp[*];done)),H',⟨by have:=HJ1.out;have:=HK2.out;omega⟩,by repeat(first|exact Drawn0.refl _|apply Drawn0.step)⟩
         ·replace c16:=jq9.mpr c16
          subst c16
          have H1:(if (bt a0 x3_2)=95 then(qvq.l0 k2 a0 (wrap64 (x3_2 + 1))) else(some false))=some r:=by rw[if_neg (show ¬ (false=true) by decide)] at H;exact H
          clear H
          have H:=H1
          clear H1
          by_cases c18:(bt a0 x3_2)=95
          ·rw[if_pos c18] at H
           have c18b0:((bt a0 x3_2) == 95)=true:=beq_iff_eq.mpr c18
           have c18b1:((bt a0 x3_2) != 95)=false:=bne_eq_false_iff_eq.mpr c18
           clear c18
           have H':=X.mk H
           clear H
           have p11 : 0≤(x3_2:Int):=of_decide_eq_true (by assumption)
           have q11:x3_2 < (a0.size:Int):=of_decide_eq_true (by assumption)
           have hx11:=bt_at a0 x3_2
           replace p11:=eq_true p11
           replace q11:=eq_true q11
           go_wp2_with (first|((with_reducible refine zw (f:=66) rfl ?_);refine goesL_ (some 26) rfl rfl Try.func66 (by kernel_rfl) rfl #[.int .u8 (bt a0 x3_2)] rfl (by(try simp only[jq0,jq1,jq2]);first|done|rfl|(simp only[jq3,jq4];rfl)) ?_;(with_reducible refine(qwq.calls (bt a0 x3_2) false _ A12.out).mono ?_);rintro e w' ⟨rfl,⟨nd,rfl⟩⟩;refine⟨_,rfl,?_⟩;have p14 : 0≤(x3_2:Int):=of_decide_eq_true (by assumption);have q14:x3_2 < (a0.size:Int):=of_decide_eq_true (by assumption);have hx14:=bt_at a0 x3_2;replace p14:=eq_true p14;replace q14:=eq_true q14)|(go_at_call 67;(with_reducible refine(qvx.calls (bt a0 x3_2) false _ A15.out).mono ?_);rintro e w' ⟨rfl,⟨nd,rfl⟩⟩;have p17 : 0≤(x3_2:Int):=of_decide_eq_true (by assumption);have q17:x3_2 < (a0.size:Int):=of_decide_eq_true (by assumption);have hx17:=bt_at a0 x3_2;replace p17:=eq_true p17;replace q17:=eq_true q17))
           go_roundg k2
           case measure=>have:=HJ1.out;have:=HK2.out;omega
           case rel=>exact⟨(wrap64 (x3_2 + 1)),(by first|rfl|(simp;done)|(simp[*];done)),H',⟨by have:=HJ1.out;have:=HK2.out;omega⟩,by repeat(first|exact Drawn0.refl _|apply Drawn0.step)⟩
          ·rw[if_neg c18] at H
           have c18b0:((bt a0 x3_2) == 95)=false:=beq_eq_false_iff_ne.mpr c18
           have c18b1:((bt a0 x3_2) != 95)=true:=bne_iff_ne.mpr c18
           obtain rfl:=Option.some.inj H
           have p11 : 0≤(x3_2:Int):=of_decide_eq_true (by assumption)
           have q11:x3_2 < (a0.size:Int):=of_decide_eq_true (by assumption)
           have hx11:=bt_at a0 x3_2
           replace p11:=eq_true p11
           replace q11:=eq_true q11
           go_wp2_with (first|((with_reducible refine zw (f:=66) rfl ?_);refine goesL_ (some 26) rfl rfl Try.func66 (by kernel_rfl) rfl #[.int .u8 (bt a0 x3_2)] rfl (by(try simp only[jq0,jq1,jq2]);first|done|rfl|(simp only[jq3,jq4];rfl)) ?_;(with_reducible refine(qwq.calls (bt a0 x3_2) false _ A12.out).mono ?_);rintro e w' ⟨rfl,⟨nd,rfl⟩⟩;refine⟨_,rfl,?_⟩;have p14 : 0≤(x3_2:Int):=of_decide_eq_true (by assumption);have q14:x3_2 < (a0.size:Int):=of_decide_eq_true (by assumption);have hx14:=bt_at a0 x3_2;replace p14:=eq_true p14;replace q14:=eq_true q14)|(go_at_call 67;(with_reducible refine(qvx.calls (bt a0 x3_2) false _ A15.out).mono ?_);rintro e w' ⟨rfl,⟨nd,rfl⟩⟩;have p17 : 0≤(x3_2:Int):=of_decide_eq_true (by assumption);have q17:x3_2 < (a0.size:Int):=of_decide_eq_true (by assumption);have hx17:=bt_at a0 x3_2;replace p17:=eq_true p17;replace q17:=eq_true q17))
           go_ret
           exact⟨by first|rfl|(simp;done)|(simp[*];done),by repeat(first|exact Drawn0.refl _|apply Drawn0.step)⟩
       ·rw[if_neg c10] at H
        exact absurd H (by simp)
      ·rw[if_neg c9] at H
       have c9b0:decide (x3_2 < (a0.size:Int))=false:=decide_eq_false c9
       clear c9
       obtain rfl:=Option.some.inj H
       go_wp2
       go_ret
       exact⟨by first|rfl|(simp;done)|(simp[*];done),by repeat(first|exact Drawn0.refl _|apply Drawn0.step)⟩
end Go.Proofs.Ytakocdkcfjkmdaa.Pr
namespace Go.Proofs.Ytakocdkcfjkmdaa.Pr
open Go.RowKit Go.Proofs.YtakocdkcfjkmdaaW.PrintWords Go.Proofs.YtakocdkcfjkmdaaW.PrintLast Go.Proofs.YtakocdkcfjkmdaaW.PrintMore
attribute [local go_sem] max2_int min2_int max_two min_two max_three min_three max_four min_four
set_option linter.unusedVariables false
set_option linter.unusedSimpArgs false
def qwx.l0:Nat→List ByteArray→Int→Option (Bool)
 | 0,_,_=>none
 | k + 1,x0,x3=>if x3 < (x0.length:Int) then(if 0≤(wrap64 (x3 - 1)) then(if (wrap64 (x3 - 1)) < (x0.length:Int) then(if 0≤x3 then((qvw.f k (rdOf ByteArray.empty x0 (wrap64 (x3 - 1))) (rdOf ByteArray.empty x0 x3)).bind fun t103=>(if t103 ≥ 0 then(some false) else(qwx.l0 k x0 (wrap64 (x3 + 1))))) else(none)) else(none)) else(none)) else(some true)
def qwx.f (k:Nat) (l0:List ByteArray):Option (Bool):=qwx.l0 k l0 1
theorem qwx.calls (k:Nat) (A0:Option Addr) (c0:Nat) (l0:List ByteArray) (r:Bool) (w:World) (hr0:Kd.C Kd.string w A0 l0.length l0) (hc0:l0.length≤c0) (h:qwx.f k l0=some r) :
  Calls Try.prog 74 #[.slice A0 l0.length c0] w fun e w'=>e=.returned (.bool r)∧Drawn0 w w':=by
 have HR0:=X.mk hr0
 have HC0:=X.mk hc0
 clear hr0 hc0
 have H:(qwx.l0 k l0 1)=some r:=h
 clear h
 have H':=X.mk H
 clear H
 go_enter Try.func74,Try.ntmps74
 go_wp2
 repeat(go_quiet (fail);try go_wp2)
 go_loopg [3] k (fun kq v3 w'=>∃ (x3_1:Int),v3=.int .i64 x3_1∧X (qwx.l0 kq l0 x3_1=some r)∧X (kq≤k)∧Drawn0 w w')
 case atStart=>exact⟨(1),(by first|rfl|(simp;done)|(simp[*];done)),H',⟨Nat.le_refl _⟩,by repeat(first|exact Drawn0.refl _|apply Drawn0.step)⟩
 case round =>
  clear H'
  obtain⟨x3_1,rfl,HA,HK1,⟨m1,rfl⟩⟩:=hrel
  cases gk with
  | zero=>exact absurd HA.out (by simp[qwx.l0])
  | succ k1 =>
   have H:=HA.out
   clear HA
   simp only[qwx.l0] at H
   by_cases c2:x3_1 < (l0.length:Int)
   ·rw[if_pos c2] at H
    have c2b0:decide (x3_1 < (l0.length:Int))=true:=decide_eq_true c2
    clear c2
    obtain⟨ji3,hji3⟩ : ∃ j_:Int,(wrap64 (x3_1 - 1))=j_:=⟨_,rfl⟩
    replace H:(if 0≤(ji3) then(if (ji3) < (l0.length:Int) then(if 0≤x3_1 then((qvw.f k1 (rdOf ByteArray.empty l0 (ji3)) (rdOf ByteArray.empty l0 x3_1)).bind fun t103=>(if t103 ≥ 0 then(some false) else(qwx.l0 k1 l0 (wrap64 (x3_1 + 1))))) else(none)) else(none)) else(none))=some r:=by first|(rw[hji3] at H;exact H)|(simp only[hji3] at H ⊢;exact H)
    have hji3w:(IntKind.i64.wrap (x3_1 - 1))=ji3:=(i64_w _).trans hji3
    by_cases c4 : 0≤(ji3)
    ·rw[if_pos c4] at H
     have c4b0:decide (0≤(ji3))=true:=decide_eq_true c4
     clear c4
     by_cases c5:(ji3) < (l0.length:Int)
     ·rw[if_pos c5] at H
      have c5b0:decide ((ji3) < (l0.length:Int))=true:=decide_eq_true c5
      clear c5
      by_cases c6 : 0≤x3_1
      ·rw[if_pos c6] at H
       have c6b0:decide (0≤x3_1)=true:=decide_eq_true c6
       clear c6
       replace H:=jq8.mp H
       obtain⟨t103,A70,H⟩:=H
       try dsimp only at H
       have A7:=X.mk A70
       clear A70
       by_cases c8:t103 ≥ 0
       ·rw[if_pos c8] at H
        have c8b0:decide (0≤t103)=true:=decide_eq_true c8
        clear c8
        obtain rfl:=Option.some.inj H
        have p101 : 0≤((ji3):Int):=of_decide_eq_true (by assumption)
        have q101:(ji3) < (l0.length:Int):=of_decide_eq_true (by assumption)
        obtain⟨ad101,e101,hx101_0⟩:=Kd.at_string HR0.out (ji3) p101 q101
        cases e101
        replace p101:=eq_true p101
        replace q101:=eq_true q101
        have p102 : 0≤(x3_1:Int):=of_decide_eq_true (by assumption)
        have q102:x3_1 < (l0.length:Int):=of_decide_eq_true (by assumption)
        obtain⟨ad102,e102,hx102_0⟩:=Kd.at_string HR0.out x3_1 p102 q102
        obtain rfl:ad101=ad102:=(by injection e102)
        replace p102:=eq_true p102
        replace q102:=eq_true q102
        go_wp2_with (first|(go_at_call 38;(with_reducible refine(qvw.calls k1 (rdOf ByteArray.empty l0 (ji3)) (rdOf ByteArray.empty l0 x3_1) t103 _ A7.out).mono ?_);rintro e w' ⟨rfl,⟨nd,rfl⟩⟩;(try first|exact⟨rfl,_,World.drewN_drewN _ _ _⟩|exact⟨rfl,_,Eq.trans (World.drewN_drewN _ _ _) (congrArg (World.drewN _) (Nat.add_assoc _ _ _))⟩)))
        repeat(go_quiet (first|(go_at_call 38;(with_reducible refine(qvw.calls k1 (rdOf ByteArray.empty l0 (ji3)) (rdOf ByteArray.empty l0 x3_1) t103 _ A7.out).mono ?_);rintro e w' ⟨rfl,⟨nd,rfl⟩⟩;(try first|exact⟨rfl,_,World.drewN_drewN _ _ _⟩|exact⟨rfl,_,Eq.trans (World.drewN_drewN _ _ _) (congrArg (World.drewN _) (Nat.add_assoc _ _ _))⟩)));try go_wp2_with (first|(go_at_call 38;(with_reducible refine(qvw.calls k1 (rdOf ByteArray.empty l0 (ji3)) (rdOf ByteArray.empty l0 x3_1) t103 _ A7.out).mono ?_);rintro e w' ⟨rfl,⟨nd,rfl⟩⟩;(try first|exact⟨rfl,_,World.drewN_drewN _ _ _⟩|exact⟨rfl,_,Eq.trans (World.drewN_drewN _ _ _) (congrArg (World.drewN _) (Nat.add_assoc _ _ _))⟩))))
        go_ret
        exact⟨by first|rfl|(simp;done)|(simp only[← hji3] <;> (first|rfl|simp))|(simp[*];done),by repeat(first|exact Drawn0.refl _|apply Drawn0.step)⟩
       ·rw[if_neg c8] at H
        have c8b0:decide (0≤t103)=false:=decide_eq_false c8
        clear c8
        have H':=X.mk H
        clear H
        have p101 : 0≤((ji3):Int):=of_decide_eq_true (by assumption)
        have q101:(ji3) < (l0.length:Int):=of_decide_eq_true (by assumption)
        obtain⟨ad101,e101,hx101_0⟩:=Kd.at_string HR0.out (ji3) p101 q101
        cases e101
        replace p101:=eq_true p101
        replace q101:=eq_true q101
        have p102 : 0≤(x3_1:Int):=of_decide_eq_true (by assumption)
        have q102:x3_1 < (l0.length:Int):=of_decide_eq_true (by assumption)
        obtain⟨ad102,e102,hx102_0⟩:=Kd.at_string HR0.out x3_1 p102 q102
        obtain rfl:ad101=ad102:=(by injection e102)
        replace p102:=eq_true p102
        replace q102:=eq_true q102
        go_wp2_with (first|(go_at_call 38;(with_reducible refine(qvw.calls k1 (rdOf ByteArray.empty l0 (ji3)) (rdOf ByteArray.empty l0 x3_1) t103 _ A7.out).mono ?_);rintro e w' ⟨rfl,⟨nd,rfl⟩⟩;(try first|exact⟨rfl,_,World.drewN_drewN _ _ _⟩|exact⟨rfl,_,Eq.trans (World.drewN_drewN _ _ _) (congrArg (World.drewN _) (Nat.add_assoc _ _ _))⟩)))
        repeat(go_quiet (first|(go_at_call 38;(with_reducible refine(qvw.calls k1 (rdOf ByteArray.empty l0 (ji3)) (rdOf ByteArray.empty l0 x3_1) t103 _ A7.out).mono ?_);rintro e w' ⟨rfl,⟨nd,rfl⟩⟩;(try first|exact⟨rfl,_,World.drewN_drewN _ _ _⟩|exact⟨rfl,_,Eq.trans (World.drewN_drewN _ _ _) (congrArg (World.drewN _) (Nat.add_assoc _ _ _))⟩)));try go_wp2_with (first|(go_at_call 38;(with_reducible refine(qvw.calls k1 (rdOf ByteArray.empty l0 (ji3)) (rdOf ByteArray.empty l0 x3_1) t103 _ A7.out).mono ?_);rintro e w' ⟨rfl,⟨nd,rfl⟩⟩;(try first|exact⟨rfl,_,World.drewN_drewN _ _ _⟩|exact⟨rfl,_,Eq.trans (World.drewN_drewN _ _ _) (congrArg (World.drewN _) (Nat.add_assoc _ _ _))⟩))))
        go_roundg k1
        case measure=>have:=HK1.out;omega
        case rel=>exact⟨(wrap64 (x3_1 + 1)),(by first|rfl|(simp;done)|(simp[*];done)),H',⟨by have:=HK1.out;omega⟩,by repeat(first|exact Drawn0.refl _|apply Drawn0.step)⟩
      ·rw[if_neg c6] at H
       exact absurd H (by simp)
     ·rw[if_neg c5] at H
      exact absurd H (by simp)
    ·rw[if_neg c4] at H
     exact absurd H (by simp)
   ·rw[if_neg c2] at H
    have c2b0:decide (x3_1 < (l0.length:Int))=false:=decide_eq_false c2
    clear c2
    obtain rfl:=Option.some.inj H
    go_wp2
    repeat(go_quiet (fail);try go_wp2)
    go_ret
    exact⟨by first|rfl|(simp;done)|(simp[*];done),by repeat(first|exact Drawn0.refl _|apply Drawn0.step)⟩
end Go.Proofs.Ytakocdkcfjkmdaa.Pr
namespace Go.Proofs.Ytakocdkcfjkmdaa.Pr
open Go.RowKit Go.Proofs.YtakocdkcfjkmdaaW.PrintWords Go.Proofs.YtakocdkcfjkmdaaW.PrintLast Go.Proofs.YtakocdkcfjkmdaaW.PrintMore
attribute [local go_sem] max2_int min2_int max_two min_two max_three min_three max_four min_four
set_option linter.unusedVariables false
set_option linter.unusedSimpArgs false
def qvk.l0:Nat→List ByteArray→List ByteArray→Int→Int→Option (Bool)
 | 0,_,_,_,_=>none
 | k + 1,x0,x5,x6,x7=>if x7 < x6 then(if 0≤x7 then(if x7 < (x5.length:Int) then((qvq.f k (rdOf ByteArray.empty x5 x7)).bind fun t102=>(if t102=true then(qvk.l0 k x0 x5 x6 (wrap64 (x7 + 1))) else(some false))) else(none)) else(none)) else(if (x0.length:Int)≤20 then((qwx.f k x0).bind fun t103=>(some t103)) else(some false))
def qvk.f (k:Nat) (l0:List ByteArray):Option (Bool):=qvk.l0 k l0 l0 (l0.length:Int) 0
theorem qvk.calls (k:Nat) (A0:Option Addr) (c0:Nat) (l0:List ByteArray) (r:Bool) (w:World) (hr0:Kd.C Kd.string w A0 l0.length l0) (hc0:l0.length≤c0) (h:qvk.f k l0=some r) :
  Calls Try.prog 44 #[.slice A0 l0.length c0] w fun e w'=>e=.returned (.bool r)∧Drawn0 w w':=by
 have HR0:=X.mk hr0
 have HC0:=X.mk hc0
 clear hr0 hc0
 have H:(qvk.l0 k l0 l0 (l0.length:Int) 0)=some r:=h
 clear h
 have H':=X.mk H
 clear H
 go_enter Try.func44,Try.ntmps44
 go_wp2
 go_loopg [7] k (fun kq v7 w'=>∃ (x7_1:Int),v7=.int .i64 x7_1∧X (qvk.l0 kq l0 l0 (l0.length:Int) x7_1=some r)∧X (kq≤k)∧Drawn0 w w')
 case atStart=>exact⟨(0),(by first|rfl|(simp;done)|(simp[*];done)),H',⟨Nat.le_refl _⟩,by repeat(first|exact Drawn0.refl _|apply Drawn0.step)⟩
 case round =>
  clear H'
  obtain⟨x7_1,rfl,HA,HK1,⟨m1,rfl⟩⟩:=hrel
  cases gk with
  | zero=>exact absurd HA.out (by simp[qvk.l0])
  | succ k1 =>
   have H:=HA.out
   clear HA
   simp only[qvk.l0] at H
   by_cases c2:x7_1 < (l0.length:Int)
   ·rw[if_pos c2] at H
    have c2b0:decide (x7_1 < (l0.length:Int))=true:=decide_eq_true c2
    clear c2
    by_cases c3 : 0≤x7_1
    ·rw[if_pos c3] at H
     have c3b0:decide (0≤x7_1)=true:=decide_eq_true c3
     clear c3
     by_cases c4:x7_1 < (l0.length:Int)
     ·rw[if_pos c4] at H
      have c4b0:decide (x7_1 < (l0.length:Int))=true:=decide_eq_true c4
      clear c4
      replace H:=jq8.mp H
      obtain⟨t102,A50,H⟩:=H
      try dsimp only at H
      have A5:=X.mk A50
      clear A50
      by_cases c6:t102=true
      ·subst c6
       have H1:(qvk.l0 k1 l0 l0 (l0.length:Int) (wrap64 (x7_1 + 1)))=some r:=by rw[if_pos rfl] at H;exact H
       clear H
       have H:=H1
       clear H1
       have H':=X.mk H
       clear H
       have p101 : 0≤(x7_1:Int):=of_decide_eq_true (by assumption)
       have q101:x7_1 < (l0.length:Int):=of_decide_eq_true (by assumption)
       obtain⟨ad101,e101,hx101_0⟩:=Kd.at_string HR0.out x7_1 p101 q101
       cases e101
       replace p101:=eq_true p101
       replace q101:=eq_true q101
       go_wp2_with (first|((with_reducible refine zw (f:=73) rfl ?_);refine goesL_ (some 12) rfl rfl Try.func73 (by kernel_rfl) rfl #[.string (rdOf ByteArray.empty l0 x7_1)] rfl (by(try simp only[jq0,jq1,jq2]);first|done|rfl|(simp only[jq3,jq4];rfl)) ?_;(with_reducible refine(qvq.calls k1 (rdOf ByteArray.empty l0 x7_1) true _ A5.out).mono ?_);rintro e w' ⟨rfl,⟨nd,rfl⟩⟩;refine⟨_,rfl,?_⟩))
       go_roundg k1
       case measure=>have:=HK1.out;omega
       case rel=>exact⟨(wrap64 (x7_1 + 1)),(by first|rfl|(simp;done)|(simp[*];done)),H',⟨by have:=HK1.out;omega⟩,by repeat(first|exact Drawn0.refl _|apply Drawn0.step)⟩
      ·replace c6:=jq9.mpr c6
       subst c6
       have H1:(some false)=some r:=by rw[if_neg (show ¬ (false=true) by decide)] at H;exact H
       clear H
       have H:=H1
       clear H1
       obtain rfl:=Option.some.inj H
       have p101 : 0≤(x7_1:Int):=of_decide_eq_true (by assumption)
       have q101:x7_1 < (l0.length:Int):=of_decide_eq_true (by assumption)
       obtain⟨ad101,e101,hx101_0⟩:=Kd.at_string HR0.out x7_1 p101 q101
       cases e101
       replace p101:=eq_true p101
       replace q101:=eq_true q101
       go_wp2_with (first|((with_reducible refine zw (f:=73) rfl ?_);refine goesL_ (some 12) rfl rfl Try.func73 (by kernel_rfl) rfl #[.string (rdOf ByteArray.empty l0 x7_1)] rfl (by(try simp only[jq0,jq1,jq2]);first|done|rfl|(simp only[jq3,jq4];rfl)) ?_;(with_reducible refine(qvq.calls k1 (rdOf ByteArray.empty l0 x7_1) false _ A5.out).mono ?_);rintro e w' ⟨rfl,⟨nd,rfl⟩⟩;refine⟨_,rfl,?_⟩))
       go_ret
       exact⟨by first|rfl|(simp;done)|(simp[*];done),by repeat(first|exact Drawn0.refl _|apply Drawn0.step)⟩
     ·rw[if_neg c4] at H
      exact absurd H (by simp)
    ·rw[if_neg c3] at H
     exact absurd H (by simp)
   ·rw[if_neg c2] at H
    have c2b0:decide (x7_1 < (l0.length:Int))=false:=decide_eq_false c2
    clear c2
    by_cases c7:(l0.length:Int)≤20
    ·rw[if_pos c7] at H
     have c7b0:decide ((l0.length:Int)≤20)=true:=decide_eq_true c7
     have c7b1:decide (l0.length≤20)=true:=decide_eq_true (by omega)
     clear c7
     replace H:=jq8.mp H
     obtain⟨t103,A80,H⟩:=H
     replace H:(some t103)=some r:=H
     have A8:=X.mk A80
     clear A80
     obtain rfl:=Option.some.inj H
     go_wp2_with (first|(go_at_call 74;(with_reducible refine(qwx.calls k1 _ _ l0 t103 _ ?side1 ?side2 A8.out).mono ?_);(case side1=>solve_by_elim only[HR0.out,Kd.C_alloc,Kd.C_drewN,Kd.C_drew]);(case side2=>exact HC0.out);rintro e w' ⟨rfl,⟨nd,rfl⟩⟩))
     go_ret
     exact⟨by first|rfl|(simp;done)|(simp[*];done),by repeat(first|exact Drawn0.refl _|apply Drawn0.step)⟩
    ·rw[if_neg c7] at H
     have c7b0:decide ((l0.length:Int)≤20)=false:=decide_eq_false c7
     have c7b1:decide (l0.length≤20)=false:=decide_eq_false (by omega)
     clear c7
     obtain rfl:=Option.some.inj H
     go_wp2
     go_ret
     exact⟨by first|rfl|(simp;done)|(simp[*];done),by repeat(first|exact Drawn0.refl _|apply Drawn0.step)⟩
end Go.Proofs.Ytakocdkcfjkmdaa.Pr
namespace Go.Proofs.Ytakocdkcfjkmdaa.Pr
open Go.RowKit Go.Proofs.YtakocdkcfjkmdaaW.PrintWords Go.Proofs.YtakocdkcfjkmdaaW.PrintLast Go.Proofs.YtakocdkcfjkmdaaW.PrintMore
attribute [local go_sem] max2_int min2_int max_two min_two max_three min_three max_four min_four
set_option linter.unusedVariables false
set_option linter.unusedSimpArgs false
def qwz.l0:Nat→ByteArray→Int→Option (Bool)
 | 0,_,_=>none
 | k + 1,x0,x3=>if x3 < (x0.size:Int) then(if 0≤x3 then(if (bt x0 x3) < 32 then(some false) else(if (bt x0 x3) > 126 then(some false) else(qwz.l0 k x0 (wrap64 (x3 + 1))))) else(none)) else(some true)
def qwz.f (k:Nat) (a0:ByteArray):Option (Bool):=qwz.l0 k a0 0
theorem qwz.calls (k:Nat) (a0:ByteArray) (r:Bool) (w:World) (h:qwz.f k a0=some r) :
  Calls Try.prog 45 #[.string a0] w fun e w'=>e=.returned (.bool r)∧Drawn0 w w':=by
 have H:(qwz.l0 k a0 0)=some r:=h
 clear h
 have H':=X.mk H
 clear H
 go_enter Try.func45,Try.ntmps45
 go_wp2
 go_loopg [3] k (fun kq v3 w'=>∃ (x3_1:Int),v3=.int .i64 x3_1∧X (qwz.l0 kq a0 x3_1=some r)∧X (kq≤k)∧Drawn0 w w')
 case atStart=>exact⟨(0),(by first|rfl|(simp;done)|(simp[*];done)),H',⟨Nat.le_refl _⟩,by repeat(first|exact Drawn0.refl _|apply Drawn0.step)⟩
 case round =>
  clear H'
  obtain⟨x3_1,rfl,HA,HK1,⟨m1,rfl⟩⟩:=hrel
  cases gk with
  | zero=>exact absurd HA.out (by simp[qwz.l0])
  | succ k1 =>
   have H:=HA.out
   clear HA
   simp only[qwz.l0] at H
   by_cases c2:x3_1 < (a0.size:Int)
   ·rw[if_pos c2] at H
    have c2b0:decide (x3_1 < (a0.size:Int))=true:=decide_eq_true c2
    clear c2
    by_cases c3 : 0≤x3_1
    ·rw[if_pos c3] at H
     have c3b0:decide (0≤x3_1)=true:=decide_eq_true c3
     clear c3
     by_cases c5:(bt a0 x3_1) < 32
     ·rw[if_pos c5] at H
      have c5b0:decide ((bt a0 x3_1) < 32)=true:=decide_eq_true c5
      clear c5
      obtain rfl:=Option.some.inj H
      have p4 : 0≤(x3_1:Int):=of_decide_eq_true (by assumption)
      have q4:x3_1 < (a0.size:Int):=of_decide_eq_true (by assumption)
      have hx4:=bt_at a0 x3_1
      replace p4:=eq_true p4
      replace q4:=eq_true q4
      go_wp2
      go_ret
      exact⟨by first|rfl|(simp;done)|(simp[*];done),by repeat(first|exact Drawn0.refl _|apply Drawn0.step)⟩
     ·rw[if_neg c5] at H
      have c5b0:decide ((bt a0 x3_1) < 32)=false:=decide_eq_false c5
      clear c5
      by_cases c7:(bt a0 x3_1) > 126
      ·rw[if_pos c7] at H
       have c7b0:decide (126 < (bt a0 x3_1))=true:=decide_eq_true c7
       clear c7
       obtain rfl:=Option.some.inj H
       have p4 : 0≤(x3_1:Int):=of_decide_eq_true (by assumption)
       have q4:x3_1 < (a0.size:Int):=of_decide_eq_true (by assumption)
       have hx4:=bt_at a0 x3_1
       replace p4:=eq_true p4
       replace q4:=eq_true q4
       have p6 : 0≤(x3_1:Int):=of_decide_eq_true (by assumption)
       have q6:x3_1 < (a0.size:Int):=of_decide_eq_true (by assumption)
       have hx6:=bt_at a0 x3_1
       replace p6:=eq_true p6
       replace q6:=eq_true q6
       go_wp2
       go_ret
       exact⟨by first|rfl|(simp;done)|(simp[*];done),by repeat(first|exact Drawn0.refl _|apply Drawn0.step)⟩
      ·rw[if_neg c7] at H
       have c7b0:decide (126 < (bt a0 x3_1))=false:=decide_eq_false c7
       clear c7
       have H':=X.mk H
       clear H
       have p4 : 0≤(x3_1:Int):=of_decide_eq_true (by assumption)
       have q4:x3_1 < (a0.size:Int):=of_decide_eq_true (by assumption)
       have hx4:=bt_at a0 x3_1
       replace p4:=eq_true p4
       replace q4:=eq_true q4
       have p6 : 0≤(x3_1:Int):=of_decide_eq_true (by assumption)
       have q6:x3_1 < (a0.size:Int):=of_decide_eq_true (by assumption)
       have hx6:=bt_at a0 x3_1
       replace p6:=eq_true p6
       replace q6:=eq_true q6
       go_wp2
       go_roundg k1
       case measure=>have:=HK1.out;omega
       case rel=>exact⟨(wrap64 (x3_1 + 1)),(by first|rfl|(simp;done)|(simp[*];done)),H',⟨by have:=HK1.out;omega⟩,by repeat(first|exact Drawn0.refl _|apply Drawn0.step)⟩
    ·rw[if_neg c3] at H
     exact absurd H (by simp)
   ·rw[if_neg c2] at H
    have c2b0:decide (x3_1 < (a0.size:Int))=false:=decide_eq_false c2
    clear c2
    obtain rfl:=Option.some.inj H
    go_wp2
    go_ret
    exact⟨by first|rfl|(simp;done)|(simp[*];done),by repeat(first|exact Drawn0.refl _|apply Drawn0.step)⟩
end Go.Proofs.Ytakocdkcfjkmdaa.Pr
namespace Go.Proofs.Ytakocdkcfjkmdaa.Pr
open Go.RowKit Go.Proofs.YtakocdkcfjkmdaaW.PrintWords Go.Proofs.YtakocdkcfjkmdaaW.PrintLast Go.Proofs.YtakocdkcfjkmdaaW.PrintMore
attribute [local go_sem] max2_int min2_int max_two min_two max_three min_three max_four min_four
set_option linter.unusedVariables false
set_option linter.unusedSimpArgs false
mutual
def qvz.l0:Nat→List (S77)→Int→Int→List (S77)→List Int→Int→Int→Option (Bool)
 | 0,_,_,_,_,_,_,_=>none
 | k + 1,x10,x11,x12,x102000,x102001,x102002,x102003=>if x12 < x11 then(if 0≤x12 then(if x12 < (x10.length:Int) then((qxq.f k ((kw x10 x12).f0)).bind fun t104=>(if t104=true then(if x12 > 0 then(if 0≤(wrap64 (x12 - 1)) then(if (wrap64 (x12 - 1)) < (x102000.length:Int) then((qvw.f k ((kw x102000 (wrap64 (x12 - 1))).f0) ((kw x10 x12).f0)).bind fun t106=>(if t106 ≥ 0 then(qvz.j1 k x10 x11 x12 true x102000 x102001 x102002 x102003 ((kw x10 x12).f0) ((kw x10 x12).f1) ((kw x10 x12).f2) ((kw x10 x12).f3) ((kw x10 x12).f4)) else(if (((kw x10 x12).f1).length:Int)=0 then(if (((kw x10 x12).f2).length:Int) > 5 then(qvz.j1 k x10 x11 x12 true x102000 x102001 x102002 x102003 ((kw x10 x12).f0) ((kw x10 x12).f1) ((kw x10 x12).f2) ((kw x10 x12).f3) ((kw x10 x12).f4)) else((qvk.f k ((kw x10 x12).f3)).bind fun t107=>(if t107=true then(qvz.j1 k x10 x11 x12 (decide ((((kw x10 x12).f4).length:Int) > 4)) x102000 x102001 x102002 x102003 ((kw x10 x12).f0) ((kw x10 x12).f1) ((kw x10 x12).f2) ((kw x10 x12).f3) ((kw x10 x12).f4)) else(qvz.j1 k x10 x11 x12 true x102000 x102001 x102002 x102003 ((kw x10 x12).f0) ((kw x10 x12).f1) ((kw x10 x12).f2) ((kw x10 x12).f3) ((kw x10 x12).f4))))) else(if (((kw x10 x12).f1).length:Int)=16 then(if (((kw x10 x12).f2).length:Int) > 5 then(qvz.j1 k x10 x11 x12 true x102000 x102001 x102002 x102003 ((kw x10 x12).f0) ((kw x10 x12).f1) ((kw x10 x12).f2) ((kw x10 x12).f3) ((kw x10 x12).f4)) else((qvk.f k ((kw x10 x12).f3)).bind fun t108=>(if t108=true then(qvz.j1 k x10 x11 x12 (decide ((((kw x10 x12).f4).length:Int) > 4)) x102000 x102001 x102002 x102003 ((kw x10 x12).f0) ((kw x10 x12).f1) ((kw x10 x12).f2) ((kw x10 x12).f3) ((kw x10 x12).f4)) else(qvz.j1 k x10 x11 x12 true x102000 x102001 x102002 x102003 ((kw x10 x12).f0) ((kw x10 x12).f1) ((kw x10 x12).f2) ((kw x10 x12).f3) ((kw x10 x12).f4))))) else(qvz.j1 k x10 x11 x12 true x102000 x102001 x102002 x102003 ((kw x10 x12).f0) ((kw x10 x12).f1) ((kw x10 x12).f2) ((kw x10 x12).f3) ((kw x10 x12).f4)))))) else(none)) else(none)) else(if (((kw x10 x12).f1).length:Int)=0 then(if (((kw x10 x12).f2).length:Int) > 5 then(qvz.j1 k x10 x11 x12 true x102000 x102001 x102002 x102003 ((kw x10 x12).f0) ((kw x10 x12).f1) ((kw x10 x12).f2) ((kw x10 x12).f3) ((kw x10 x12).f4)) else((qvk.f k ((kw x10 x12).f3)).bind fun t109=>(if t109=true then(qvz.j1 k x10 x11 x12 (decide ((((kw x10 x12).f4).length:Int) > 4)) x102000 x102001 x102002 x102003 ((kw x10 x12).f0) ((kw x10 x12).f1) ((kw x10 x12).f2) ((kw x10 x12).f3) ((kw x10 x12).f4)) else(qvz.j1 k x10 x11 x12 true x102000 x102001 x102002 x102003 ((kw x10 x12).f0) ((kw x10 x12).f1) ((kw x10 x12).f2) ((kw x10 x12).f3) ((kw x10 x12).f4))))) else(if (((kw x10 x12).f1).length:Int)=16 then(if (((kw x10 x12).f2).length:Int) > 5 then(qvz.j1 k x10 x11 x12 true x102000 x102001 x102002 x102003 ((kw x10 x12).f0) ((kw x10 x12).f1) ((kw x10 x12).f2) ((kw x10 x12).f3) ((kw x10 x12).f4)) else((qvk.f k ((kw x10 x12).f3)).bind fun t110=>(if t110=true then(qvz.j1 k x10 x11 x12 (decide ((((kw x10 x12).f4).length:Int) > 4)) x102000 x102001 x102002 x102003 ((kw x10 x12).f0) ((kw x10 x12).f1) ((kw x10 x12).f2) ((kw x10 x12).f3) ((kw x10 x12).f4)) else(qvz.j1 k x10 x11 x12 true x102000 x102001 x102002 x102003 ((kw x10 x12).f0) ((kw x10 x12).f1) ((kw x10 x12).f2) ((kw x10 x12).f3) ((kw x10 x12).f4))))) else(qvz.j1 k x10 x11 x12 true x102000 x102001 x102002 x102003 ((kw x10 x12).f0) ((kw x10 x12).f1) ((kw x10 x12).f2) ((kw x10 x12).f3) ((kw x10 x12).f4))))) else(qvz.j1 k x10 x11 x12 true x102000 x102001 x102002 x102003 ((kw x10 x12).f0) ((kw x10 x12).f1) ((kw x10 x12).f2) ((kw x10 x12).f3) ((kw x10 x12).f4)))) else(none)) else(none)) else(if (x102000.length:Int)≤20 then(if (x102001.length:Int)≤64 then(if x102002 ≥ 1 then(if x102002≤1000000 then(if x102003 ≥ 1 then(some (decide (x102003≤1000000))) else(some false)) else(some false)) else(some false)) else(some false)) else(some false))
def qvz.j1:Nat→List (S77)→Int→Int→Bool→List (S77)→List Int→Int→Int→ByteArray→List Int→List ByteArray→List ByteArray→List Int→Option (Bool)
 | 0,_,_,_,_,_,_,_,_,_,_,_,_,_=>none
 | k + 1,x10,x11,x12,x67,x102000,x102001,x102002,x102003,x104000,x104001,x104002,x104003,x104004=>if x67=true then(some false) else(qvz.l1 k x10 x11 x12 x104002 (x104002.length:Int) 0 x102000 x102001 x102002 x102003 x104000 x104001 x104002 x104003 x104004)
def qvz.l1:Nat→List (S77)→Int→Int→List ByteArray→Int→Int→List (S77)→List Int→Int→Int→ByteArray→List Int→List ByteArray→List ByteArray→List Int→Option (Bool)
 | 0,_,_,_,_,_,_,_,_,_,_,_,_,_,_,_=>none
 | k + 1,x10,x11,x12,x69,x70,x71,x102000,x102001,x102002,x102003,x104000,x104001,x104002,x104003,x104004=>if x71 < x70 then(if 0≤x71 then(if x71 < (x69.length:Int) then(if ((rdOf ByteArray.empty x69 x71).size:Int) < 1 then(some false) else(if ((rdOf ByteArray.empty x69 x71).size:Int) > 200 then(some false) else((qwz.f k (rdOf ByteArray.empty x69 x71)).bind fun t112=>(if t112=true then(qvz.l1 k x10 x11 x12 x69 x70 (wrap64 (x71 + 1)) x102000 x102001 x102002 x102003 x104000 x104001 x104002 x104003 x104004) else(some false))))) else(none)) else(none)) else(qvz.l2 k x10 x11 x12 x104004 (x104004.length:Int) 0 x102000 x102001 x102002 x102003)
def qvz.l2:Nat→List (S77)→Int→Int→List Int→Int→Int→List (S77)→List Int→Int→Int→Option (Bool)
 | 0,_,_,_,_,_,_,_,_,_,_=>none
 | k + 1,x10,x11,x12,x90,x91,x92,x102000,x102001,x102002,x102003=>if x92 < x91 then(if 0≤x92 then(if x92 < (x90.length:Int) then(if (rd x90 x92) < 1 then(some false) else(if (rd x90 x92) > 4 then(some false) else(qvz.l2 k x10 x11 x12 x90 x91 (wrap64 (x92 + 1)) x102000 x102001 x102002 x102003))) else(none)) else(none)) else(qvz.l0 k x10 x11 (wrap64 (x12 + 1)) x102000 x102001 x102002 x102003)
end
def qvz.f (k:Nat) (l0_0:List (S77)) (l0_1:List Int) (a0_2:Int) (a0_3:Int):Option (Bool):=qvz.l0 k l0_0 (l0_0.length:Int) 0 l0_0 l0_1 a0_2 a0_3
theorem qvz.calls (k:Nat) (A0_0:Option Addr) (c0_0:Nat) (l0_0:List (S77)) (A0_1:Option Addr) (c0_1:Nat) (l0_1:List Int) (a0_2:Int) (a0_3:Int) (r:Bool) (w:World) (hr0_0:Kd.C k77 w A0_0 l0_0.length l0_0) (hc0_0:l0_0.length≤c0_0) (hr0_1:Kd.C (Kd.int .u8) w A0_1 l0_1.length l0_1) (hc0_1:l0_1.length≤c0_1) (h:qvz.f k l0_0 l0_1 a0_2 a0_3=some r) :
  Calls Try.prog 19 #[.agg #[.slice A0_0 l0_0.length c0_0,.slice A0_1 l0_1.length c0_1,.int .i64 a0_2,.int .i64 a0_3]] w fun e w'=>e=.returned (.bool r)∧Below w.heap.size w w':=by
 have hu45:=Try.underlying45
 have hu77:=Try.underlying77
 have HR0_0:=X.mk hr0_0
 have HC0_0:=X.mk hc0_0
 clear hr0_0 hc0_0
 have HR0_1:=X.mk hr0_1
 have HC0_1:=X.mk hc0_1
 clear hr0_1 hc0_1
 have HB:=X.mk (Below.refl w.heap.size w)
 have H:(qvz.l0 k l0_0 (l0_0.length:Int) 0 l0_0 l0_1 a0_2 a0_3)=some r:=h
 clear h
 have H':=X.mk H
 clear H
 go_enter Try.func19,Try.ntmps19
 go_wp2_with (first|((with_reducible refine gate_dst (N:=1) rfl ?_);(try (refine gate_guard (by rfl) ?_;dsimp only));refine box_event ?hg (N:=1) ?hd (cs:=#[.slice A0_0 l0_0.length c0_0,.slice A0_1 l0_1.length c0_1,.int .i64 a0_2,.int .i64 a0_3]) (t:=45) ?hr ?_;(case hd=>rfl);(case hg=>rfl);(case hr=>first|(go_simp;done)|(go_simp;rfl));intro gb101 hg w2 hbox hb;have BK101:=X.mk (hbox);have GW101:=X.mk ((by rw[hg];exact(qx (by solve_by_elim only[HB.out,O,U,L])):w.heap.size≤gb101));have GE101:=X.mk ((by rw[hg];exact(qx (by solve_by_elim only[HB.out,O,U,L])):w.heap.size≤gb101));replace HB:=X.mk (qw (by solve_by_elim only[HB.out,O,U,L]) hb);clear hb hbox hg;have hcz3_0:w2.cell? ⟨gb101,0,none⟩ = some (.slice A0_0 l0_0.length c0_0):=(I BK101.out 0).trans rfl;have hcz3_1:w2.cell? ⟨gb101,1,none⟩ = some (.slice A0_1 l0_1.length c0_1):=(I BK101.out 1).trans rfl;have hcz3_2:w2.cell? ⟨gb101,2,none⟩ = some (.int .i64 a0_2):=(I BK101.out 2).trans rfl;have hcz3_3:w2.cell? ⟨gb101,3,none⟩ = some (.int .i64 a0_3):=(I BK101.out 3).trans rfl;have hfz3_0:=J BK101.out 0;have hfz3_1:=J BK101.out 1;have hfz3_2:=J BK101.out 2;have hfz3_3:=J BK101.out 3))
 go_loopg [12] k (fun kq v12 w'=>∃ (x12_1:Int),v12=.int .i64 x12_1∧X (qvz.l0 kq l0_0 (l0_0.length:Int) x12_1 l0_0 l0_1 a0_2 a0_3=some r)∧X (kq≤k)∧X (w'.heap[gb101]? = some (.cells #[(.slice A0_0 l0_0.length c0_0),(.slice A0_1 l0_1.length c0_1),.int .i64 a0_2,.int .i64 a0_3] 45 (0,0)))∧X (Below w.heap.size w w'))
 case atStart=>exact⟨(0),(by first|rfl|(simp;done)|(simp[*];done)),H',⟨Nat.le_refl _⟩,⟨by(with_reducible repeat(first|refine qj ?_ _|refine qk ?_|refine qz ?_ _));exact BK101.out⟩,⟨by repeat(first|(with_reducible first|exact HB.out|apply O|apply U|apply L|refine qq ?_ GE101.out)|exact HB.out)⟩⟩
 case round =>
  clear H'
  try clear c1
  try clear p2
  try clear hcz3_0
  try clear hcz3_1
  try clear hcz3_2
  try clear hcz3_3
  try clear hfz3_0
  try clear hfz3_1
  try clear hfz3_2
  try clear hfz3_3
  obtain⟨x12_1,rfl,HA,HK1,BK101,HB⟩:=hrel
  cases gk with
  | zero=>exact absurd HA.out (by simp[qvz.l0])
  | succ k1 =>
   have H:=HA.out
   clear HA
   simp only[qvz.l0] at H
   by_cases c4:x12_1 < (l0_0.length:Int)
   ·rw[if_pos c4] at H
    have c4b0:decide (x12_1 < (l0_0.length:Int))=true:=decide_eq_true c4
    clear c4
    by_cases c5 : 0≤x12_1
    ·rw[if_pos c5] at H
     have c5b0:decide (0≤x12_1)=true:=decide_eq_true c5
     clear c5
     by_cases c6:x12_1 < (l0_0.length:Int)
     ·rw[if_pos c6] at H
      have c6b0:decide (x12_1 < (l0_0.length:Int))=true:=decide_eq_true c6
      clear c6
      have HC7:=X.mk H
      clear H
      have p102 : 0≤(x12_1:Int):=of_decide_eq_true (by assumption)
      have q102:x12_1 < (l0_0.length:Int):=of_decide_eq_true (by assumption)
      obtain⟨ad102,A102_1,c102_1,A102_2,c102_2,A102_3,c102_3,A102_4,c102_4,e102,hx102_0,hx102_1,hx102_2,hx102_3,hx102_4,hl102_1,hi102_1,hl102_2,hi102_2,hl102_3,hi102_3,hl102_4,hi102_4⟩:=at_T77 HR0_0.out x12_1 p102 q102
      cases e102
      replace hx102_0:=(HB.out.cell (World.block_lt_of_cell? w _ hx102_0)).trans hx102_0
      replace hx102_1:=(HB.out.cell (World.block_lt_of_cell? w _ hx102_1)).trans hx102_1
      replace hx102_2:=(HB.out.cell (World.block_lt_of_cell? w _ hx102_2)).trans hx102_2
      replace hx102_3:=(HB.out.cell (World.block_lt_of_cell? w _ hx102_3)).trans hx102_3
      replace hx102_4:=(HB.out.cell (World.block_lt_of_cell? w _ hx102_4)).trans hx102_4
      have HR102_1:=X.mk hi102_1
      have HC102_1:=X.mk hl102_1
      clear hi102_1 hl102_1
      have HR102_2:=X.mk hi102_2
      have HC102_2:=X.mk hl102_2
      clear hi102_2 hl102_2
      have HR102_3:=X.mk hi102_3
      have HC102_3:=X.mk hl102_3
      clear hi102_3 hl102_3
      have HR102_4:=X.mk hi102_4
      have HC102_4:=X.mk hl102_4
      clear hi102_4 hl102_4
      replace p102:=eq_true p102
      replace q102:=eq_true q102
      go_upto_region 4 with (first|((with_reducible refine gate_dst (N:=4) rfl ?_);(try (refine gate_guard (by rfl) ?_;dsimp only));refine box_event ?hg (N:=4) ?hd (cs:=#[.string (⟨#[]⟩ : ByteArray),.slice none 0 0,.slice none 0 0,.slice none 0 0,.slice none 0 0]) (t:=77) ?hr ?_;(case hd=>rfl);(case hg=>rfl);(case hr=>first|(go_simp;done)|(go_simp;rfl));intro gb103 hg w8 hbox hb;have BK103:=X.mk (hbox);have GW103:=X.mk ((by rw[hg];exact(qx (by solve_by_elim (maxDepth:=20) only[HB.out,O,U,L,qq,GE101.out])):w.heap.size≤gb103));have GE103:=X.mk ((by rw[hg];exact(qx (by solve_by_elim (maxDepth:=20) only[HB.out,O,U,L,qq,GE101.out])):w.heap.size≤gb103));replace HB:=X.mk (qw (by solve_by_elim (maxDepth:=20) only[HB.out,O,U,L,qq,GE101.out]) hb);have NB101_103:=X.mk ((by rw[hg];exact Nat.ne_of_lt (blk_lt (g:=gb101) (o:=.cells #[.slice (some ad102) l0_0.length c0_0,.slice A0_1 l0_1.length c0_1,.int .i64 a0_2,.int .i64 a0_3] 45 (0,0)) (by solve_by_elim only[BK101.out,qj,qk,qz])):gb101≠gb103));have NB103_101:=X.mk ((by rw[hg];exact Nat.ne_of_gt (blk_lt (g:=gb101) (o:=.cells #[.slice (some ad102) l0_0.length c0_0,.slice A0_1 l0_1.length c0_1,.int .i64 a0_2,.int .i64 a0_3] 45 (0,0)) (by solve_by_elim only[BK101.out,qj,qk,qz])):gb103≠gb101));replace BK101:=X.mk (kj (g:=gb101) (o:=.cells #[.slice (some ad102) l0_0.length c0_0,.slice A0_1 l0_1.length c0_1,.int .i64 a0_2,.int .i64 a0_3] 45 (0,0)) (by solve_by_elim only[BK101.out,qj,qk,qz]) hb);clear hb hbox hg;have hnb9:=NB103_101.out;have hnc9:=NB101_103.out;have hcz10_0:w8.cell? ⟨gb103,0,none⟩ = some (.string (⟨#[]⟩ : ByteArray)):=(I BK103.out 0).trans rfl;have hcz10_1:w8.cell? ⟨gb103,1,none⟩ = some (.slice none 0 0):=(I BK103.out 1).trans rfl;have hcz10_2:w8.cell? ⟨gb103,2,none⟩ = some (.slice none 0 0):=(I BK103.out 2).trans rfl;have hcz10_3:w8.cell? ⟨gb103,3,none⟩ = some (.slice none 0 0):=(I BK103.out 3).trans rfl;have hcz10_4:w8.cell? ⟨gb103,4,none⟩ = some (.slice none 0 0):=(I BK103.out 4).trans rfl;have hfz10_0:=J BK103.out 0;have hfz10_1:=J BK103.out 1;have hfz10_2:=J BK103.out 2;have hfz10_3:=J BK103.out 3;have hfz10_4:=J BK103.out 4))
      (try simp only[Act.put,jq5,jq6,jq7])
      go_cut [67] (fun v67 wc=>∃ (kq:Nat) (x67_6:Bool),v67=.bool x67_6∧X (qvz.j1 kq l0_0 (l0_0.length:Int) x12_1 x67_6 l0_0 l0_1 a0_2 a0_3 ((kw l0_0 x12_1).f0) ((kw l0_0 x12_1).f1) ((kw l0_0 x12_1).f2) ((kw l0_0 x12_1).f3) ((kw l0_0 x12_1).f4)=some r)∧X (kq≤k1)∧X (wc.heap[gb101]? = some (.cells #[(.slice (some ad102) l0_0.length c0_0),(.slice A0_1 l0_1.length c0_1),.int .i64 a0_2,.int .i64 a0_3] 45 (0,0)))∧X (wc.heap[gb103]? = some (.cells #[.string ((kw l0_0 x12_1).f0),(.slice A102_1 ((kw l0_0 x12_1).f1).length c102_1),(.slice A102_2 ((kw l0_0 x12_1).f2).length c102_2),(.slice A102_3 ((kw l0_0 x12_1).f3).length c102_3),(.slice A102_4 ((kw l0_0 x12_1).f4).length c102_4)] 77 (0,0)))∧X (Below w.heap.size w wc))
      case first =>
       have H:=HC7.out
       clear HC7
       replace H:=jq8.mp H
       obtain⟨t104,A110,H⟩:=H
       try dsimp only at H
       have A11:=X.mk A110
       clear A110
       by_cases c12:t104=true
       ·subst c12
        have H1:(if x12_1 > 0 then(if 0≤(wrap64 (x12_1 - 1)) then(if (wrap64 (x12_1 - 1)) < (l0_0.length:Int) then((qvw.f k1 ((kw l0_0 (wrap64 (x12_1 - 1))).f0) ((kw l0_0 x12_1).f0)).bind fun t106=>(if t106 ≥ 0 then(qvz.j1 k1 l0_0 (l0_0.length:Int) x12_1 true l0_0 l0_1 a0_2 a0_3 ((kw l0_0 x12_1).f0) ((kw l0_0 x12_1).f1) ((kw l0_0 x12_1).f2) ((kw l0_0 x12_1).f3) ((kw l0_0 x12_1).f4)) else(if (((kw l0_0 x12_1).f1).length:Int)=0 then(if (((kw l0_0 x12_1).f2).length:Int) > 5 then(qvz.j1 k1 l0_0 (l0_0.length:Int) x12_1 true l0_0 l0_1 a0_2 a0_3 ((kw l0_0 x12_1).f0) ((kw l0_0 x12_1).f1) ((kw l0_0 x12_1).f2) ((kw l0_0 x12_1).f3) ((kw l0_0 x12_1).f4)) else((qvk.f k1 ((kw l0_0 x12_1).f3)).bind fun t107=>(if t107=true then(qvz.j1 k1 l0_0 (l0_0.length:Int) x12_1 (decide ((((kw l0_0 x12_1).f4).length:Int) > 4)) l0_0 l0_1 a0_2 a0_3 ((kw l0_0 x12_1).f0) ((kw l0_0 x12_1).f1) ((kw l0_0 x12_1).f2) ((kw l0_0 x12_1).f3) ((kw l0_0 x12_1).f4)) else(qvz.j1 k1 l0_0 (l0_0.length:Int) x12_1 true l0_0 l0_1 a0_2 a0_3 ((kw l0_0 x12_1).f0) ((kw l0_0 x12_1).f1) ((kw l0_0 x12_1).f2) ((kw l0_0 x12_1).f3) ((kw l0_0 x12_1).f4))))) else(if (((kw l0_0 x12_1).f1).length:Int)=16 then(if (((kw l0_0 x12_1).f2).length:Int) > 5 then(qvz.j1 k1 l0_0 (l0_0.length:Int) x12_1 true l0_0 l0_1 a0_2 a0_3 ((kw l0_0 x12_1).f0) ((kw l0_0 x12_1).f1) ((kw l0_0 x12_1).f2) ((kw l0_0 x12_1).f3) ((kw l0_0 x12_1).f4)) else((qvk.f k1 ((kw l0_0 x12_1).f3)).bind fun t108=>(if t108=true then(qvz.j1 k1 l0_0 (l0_0.length:Int) x12_1 (decide ((((kw l0_0 x12_1).f4).length:Int) > 4)) l0_0 l0_1 a0_2 a0_3 ((kw l0_0 x12_1).f0) ((kw l0_0 x12_1).f1) ((kw l0_0 x12_1).f2) ((kw l0_0 x12_1).f3) ((kw l0_0 x12_1).f4)) else(qvz.j1 k1 l0_0 (l0_0.length:Int) x12_1 true l0_0 l0_1 a0_2 a0_3 ((kw l0_0 x12_1).f0) ((kw l0_0 x12_1).f1) ((kw l0_0 x12_1).f2) ((kw l0_0 x12_1).f3) ((kw l0_0 x12_1).f4))))) else(qvz.j1 k1 l0_0 (l0_0.length:Int) x12_1 true l0_0 l0_1 a0_2 a0_3 ((kw l0_0 x12_1).f0) ((kw l0_0 x12_1).f1) ((kw l0_0 x12_1).f2) ((kw l0_0 x12_1).f3) ((kw l0_0 x12_1).f4)))))) else(none)) else(none)) else(if (((kw l0_0 x12_1).f1).length:Int)=0 then(if (((kw l0_0 x12_1).f2).length:Int) > 5 then(qvz.j1 k1 l0_0 (l0_0.length:Int) x12_1 true l0_0 l0_1 a0_2 a0_3 ((kw l0_0 x12_1).f0) ((kw l0_0 x12_1).f1) ((kw l0_0 x12_1).f2) ((kw l0_0 x12_1).f3) ((kw l0_0 x12_1).f4)) else((qvk.f k1 ((kw l0_0 x12_1).f3)).bind fun t109=>(if t109=true then(qvz.j1 k1 l0_0 (l0_0.length:Int) x12_1 (decide ((((kw l0_0 x12_1).f4).length:Int) > 4)) l0_0 l0_1 a0_2 a0_3 ((kw l0_0 x12_1).f0) ((kw l0_0 x12_1).f1) ((kw l0_0 x12_1).f2) ((kw l0_0 x12_1).f3) ((kw l0_0 x12_1).f4)) else(qvz.j1 k1 l0_0 (l0_0.length:Int) x12_1 true l0_0 l0_1 a0_2 a0_3 ((kw l0_0 x12_1).f0) ((kw l0_0 x12_1).f1) ((kw l0_0 x12_1).f2) ((kw l0_0 x12_1).f3) ((kw l0_0 x12_1).f4))))) else(if (((kw l0_0 x12_1).f1).length:Int)=16 then(if (((kw l0_0 x12_1).f2).length:Int) > 5 then(qvz.j1 k1 l0_0 (l0_0.length:Int) x12_1 true l0_0 l0_1 a0_2 a0_3 ((kw l0_0 x12_1).f0) ((kw l0_0 x12_1).f1) ((kw l0_0 x12_1).f2) ((kw l0_0 x12_1).f3) ((kw l0_0 x12_1).f4)) else((qvk.f k1 ((kw l0_0 x12_1).f3)).bind fun t110=>(if t110=true then(qvz.j1 k1 l0_0 (l0_0.length:Int) x12_1 (decide ((((kw l0_0 x12_1).f4).length:Int) > 4)) l0_0 l0_1 a0_2 a0_3 ((kw l0_0 x12_1).f0) ((kw l0_0 x12_1).f1) ((kw l0_0 x12_1).f2) ((kw l0_0 x12_1).f3) ((kw l0_0 x12_1).f4)) else(qvz.j1 k1 l0_0 (l0_0.length:Int) x12_1 true l0_0 l0_1 a0_2 a0_3 ((kw l0_0 x12_1).f0) ((kw l0_0 x12_1).f1) ((kw l0_0 x12_1).f2) ((kw l0_0 x12_1).f3) ((kw l0_0 x12_1).f4))))) else(qvz.j1 k1 l0_0 (l0_0.length:Int) x12_1 true l0_0 l0_1 a0_2 a0_3 ((kw l0_0 x12_1).f0) ((kw l0_0 x12_1).f1) ((kw l0_0 x12_1).f2) ((kw l0_0 x12_1).f3) ((kw l0_0 x12_1).f4)))))=some r:=by rw[if_pos rfl] at H;exact H
        clear H
        have H:=H1
        clear H1
        by_cases c13:x12_1 > 0
        ·rw[if_pos c13] at H
         have c13b0:decide (0 < x12_1)=true:=decide_eq_true c13
         clear c13
         (first|rw[c13b0]|(simp only[i64_w,i32_w];rw[c13b0])|skip)
         obtain⟨ji14,hji14⟩ : ∃ j_:Int,(wrap64 (x12_1 - 1))=j_:=⟨_,rfl⟩
         replace H:(if 0≤(ji14) then(if (ji14) < (l0_0.length:Int) then((qvw.f k1 ((kw l0_0 (ji14)).f0) ((kw l0_0 x12_1).f0)).bind fun t106=>(if t106 ≥ 0 then(qvz.j1 k1 l0_0 (l0_0.length:Int) x12_1 true l0_0 l0_1 a0_2 a0_3 ((kw l0_0 x12_1).f0) ((kw l0_0 x12_1).f1) ((kw l0_0 x12_1).f2) ((kw l0_0 x12_1).f3) ((kw l0_0 x12_1).f4)) else(if (((kw l0_0 x12_1).f1).length:Int)=0 then(if (((kw l0_0 x12_1).f2).length:Int) > 5 then(qvz.j1 k1 l0_0 (l0_0.length:Int) x12_1 true l0_0 l0_1 a0_2 a0_3 ((kw l0_0 x12_1).f0) ((kw l0_0 x12_1).f1) ((kw l0_0 x12_1).f2) ((kw l0_0 x12_1).f3) ((kw l0_0 x12_1).f4)) else((qvk.f k1 ((kw l0_0 x12_1).f3)).bind fun t107=>(if t107=true then(qvz.j1 k1 l0_0 (l0_0.length:Int) x12_1 (decide ((((kw l0_0 x12_1).f4).length:Int) > 4)) l0_0 l0_1 a0_2 a0_3 ((kw l0_0 x12_1).f0) ((kw l0_0 x12_1).f1) ((kw l0_0 x12_1).f2) ((kw l0_0 x12_1).f3) ((kw l0_0 x12_1).f4)) else(qvz.j1 k1 l0_0 (l0_0.length:Int) x12_1 true l0_0 l0_1 a0_2 a0_3 ((kw l0_0 x12_1).f0) ((kw l0_0 x12_1).f1) ((kw l0_0 x12_1).f2) ((kw l0_0 x12_1).f3) ((kw l0_0 x12_1).f4))))) else(if (((kw l0_0 x12_1).f1).length:Int)=16 then(if (((kw l0_0 x12_1).f2).length:Int) > 5 then(qvz.j1 k1 l0_0 (l0_0.length:Int) x12_1 true l0_0 l0_1 a0_2 a0_3 ((kw l0_0 x12_1).f0) ((kw l0_0 x12_1).f1) ((kw l0_0 x12_1).f2) ((kw l0_0 x12_1).f3) ((kw l0_0 x12_1).f4)) else((qvk.f k1 ((kw l0_0 x12_1).f3)).bind fun t108=>(if t108=true then(qvz.j1 k1 l0_0 (l0_0.length:Int) x12_1 (decide ((((kw l0_0 x12_1).f4).length:Int) > 4)) l0_0 l0_1 a0_2 a0_3 ((kw l0_0 x12_1).f0) ((kw l0_0 x12_1).f1) ((kw l0_0 x12_1).f2) ((kw l0_0 x12_1).f3) ((kw l0_0 x12_1).f4)) else(qvz.j1 k1 l0_0 (l0_0.length:Int) x12_1 true l0_0 l0_1 a0_2 a0_3 ((kw l0_0 x12_1).f0) ((kw l0_0 x12_1).f1) ((kw l0_0 x12_1).f2) ((kw l0_0 x12_1).f3) ((kw l0_0 x12_1).f4))))) else(qvz.j1 k1 l0_0 (l0_0.length:Int) x12_1 true l0_0 l0_1 a0_2 a0_3 ((kw l0_0 x12_1).f0) ((kw l0_0 x12_1).f1) ((kw l0_0 x12_1).f2) ((kw l0_0 x12_1).f3) ((kw l0_0 x12_1).f4)))))) else(none)) else(none))=some r:=by first|(rw[hji14] at H;exact H)|(simp only[hji14] at H ⊢;exact H)
         (try rw[hji14] at A11)
         have hji14w:(IntKind.i64.wrap (x12_1 - 1))=ji14:=(i64_w _).trans hji14
         by_cases c15 : 0≤(ji14)
         ·rw[if_pos c15] at H
          have c15b0:decide (0≤(ji14))=true:=decide_eq_true c15
          clear c15
          by_cases c16:(ji14) < (l0_0.length:Int)
          ·rw[if_pos c16] at H
           have c16b0:decide ((ji14) < (l0_0.length:Int))=true:=decide_eq_true c16
           clear c16
           replace H:=jq8.mp H
           obtain⟨t106,A170,H⟩:=H
           try dsimp only at H
           have A17:=X.mk A170
           clear A170
           by_cases c18:t106 ≥ 0
           ·rw[if_pos c18] at H
            have c18b0:decide (0≤t106)=true:=decide_eq_true c18
            clear c18
            have H':=X.mk H
            clear H
            try go_wp2
            obtain⟨w19,e_⟩:∃ v_,v_=(((((w8.setCell ⟨gb103,0,none⟩ (.string ((kw l0_0 x12_1).f0))).setCell ⟨gb103,1,none⟩ (.slice A102_1 ((kw l0_0 x12_1).f1).length c102_1)).setCell ⟨gb103,2,none⟩ (.slice A102_2 ((kw l0_0 x12_1).f2).length c102_2)).setCell ⟨gb103,3,none⟩ (.slice A102_3 ((kw l0_0 x12_1).f3).length c102_3)).setCell ⟨gb103,4,none⟩ (.slice A102_4 ((kw l0_0 x12_1).f4).length c102_4)):=⟨_,rfl⟩
            have n0_:X (w19.heap[gb101]? = some (.cells #[.slice (some ad102) l0_0.length c0_0,.slice A0_1 l0_1.length c0_1,.int .i64 a0_2,.int .i64 a0_3] 45 (0,0))):=⟨by rewrite[e_];exact far5 BK101.out NB101_103.out⟩
            have n1_:X (w19.heap[gb103]? = some (.cells #[.string ((kw l0_0 x12_1).f0),.slice A102_1 ((kw l0_0 x12_1).f1).length c102_1,.slice A102_2 ((kw l0_0 x12_1).f2).length c102_2,.slice A102_3 ((kw l0_0 x12_1).f3).length c102_3,.slice A102_4 ((kw l0_0 x12_1).f4).length c102_4] 77 (0,0))):=⟨by rewrite[e_];exact put5 BK103.out⟩
            have n2_:X (Below w.heap.size w w19):=⟨by rewrite[e_];repeat(first|(with_reducible first|exact HB.out|apply O|apply U|apply L|refine qq ?_ GE101.out|refine qq ?_ GE103.out)|exact HB.out)⟩
            (try clear BK101)
            (try clear BK103)
            (try clear HB)
            rewrite[←e_]
            clear e_
            have BK101:=n0_
            have BK103:=n1_
            have HB:=n2_
            clear n0_ n1_ n2_
            have p105 : 0≤((ji14):Int):=of_decide_eq_true (by assumption)
            have q105:(ji14) < (l0_0.length:Int):=of_decide_eq_true (by assumption)
            obtain⟨ad105,A105_1,c105_1,A105_2,c105_2,A105_3,c105_3,A105_4,c105_4,e105,hx105_0,hx105_1,hx105_2,hx105_3,hx105_4,hl105_1,hi105_1,hl105_2,hi105_2,hl105_3,hi105_3,hl105_4,hi105_4⟩:=at_T77 HR0_0.out (ji14) p105 q105
            have hw105_4:=hx105_4
            have hw105_3:=hx105_3
            have hw105_2:=hx105_2
            have hw105_1:=hx105_1
            have hw105_0:=hx105_0
            obtain rfl:ad102=ad105:=(by injection e105)
            replace hx105_0:=(HB.out.cell (World.block_lt_of_cell? w _ hx105_0)).trans hx105_0
            replace hx105_1:=(HB.out.cell (World.block_lt_of_cell? w _ hx105_1)).trans hx105_1
            replace hx105_2:=(HB.out.cell (World.block_lt_of_cell? w _ hx105_2)).trans hx105_2
            replace hx105_3:=(HB.out.cell (World.block_lt_of_cell? w _ hx105_3)).trans hx105_3
            replace hx105_4:=(HB.out.cell (World.block_lt_of_cell? w _ hx105_4)).trans hx105_4
            have HR105_1:=X.mk hi105_1
            have HC105_1:=X.mk hl105_1
            clear hi105_1 hl105_1
            have HR105_2:=X.mk hi105_2
            have HC105_2:=X.mk hl105_2
            clear hi105_2 hl105_2
            have HR105_3:=X.mk hi105_3
            have HC105_3:=X.mk hl105_3
            clear hi105_3 hl105_3
            have HR105_4:=X.mk hi105_4
            have HC105_4:=X.mk hl105_4
            clear hi105_4 hl105_4
            replace p105:=eq_true p105
            replace q105:=eq_true q105
            have hS_:=(show(fun w'=>w'.cell? ⟨gb103,0,none⟩ = some (.string ((kw l0_0 x12_1).f0))∧w'.cell? ⟨gb103,1,none⟩ = some (.slice A102_1 ((kw l0_0 x12_1).f1).length c102_1)∧w'.cell? ⟨gb103,2,none⟩ = some (.slice A102_2 ((kw l0_0 x12_1).f2).length c102_2)∧w'.cell? ⟨gb103,3,none⟩ = some (.slice A102_3 ((kw l0_0 x12_1).f3).length c102_3)∧w'.cell? ⟨gb103,4,none⟩ = some (.slice A102_4 ((kw l0_0 x12_1).f4).length c102_4)∧w'.cell? ⟨gb101,0,none⟩ = some (.slice (some ad102) l0_0.length c0_0)∧w'.cell? ⟨gb101,1,none⟩ = some (.slice A0_1 l0_1.length c0_1)∧w'.cell? ⟨gb101,2,none⟩ = some (.int .i64 a0_2)∧w'.cell? ⟨gb101,3,none⟩ = some (.int .i64 a0_3)∧w'.cell? (ad102.add (((ji14)).toNat * 5))=some (.string ((kw l0_0 (ji14)).f0))∧w'.cell? ⟨(ad102.add (((ji14)).toNat * 5)).block,(ad102.add (((ji14)).toNat * 5)).off + 1,none⟩ = some (.slice A105_1 ((kw l0_0 (ji14)).f1).length c105_1)∧w'.cell? ⟨(ad102.add (((ji14)).toNat * 5)).block,(ad102.add (((ji14)).toNat * 5)).off + 2,none⟩ = some (.slice A105_2 ((kw l0_0 (ji14)).f2).length c105_2)∧w'.cell? ⟨(ad102.add (((ji14)).toNat * 5)).block,(ad102.add (((ji14)).toNat * 5)).off + 3,none⟩ = some (.slice A105_3 ((kw l0_0 (ji14)).f3).length c105_3)∧w'.cell? ⟨(ad102.add (((ji14)).toNat * 5)).block,(ad102.add (((ji14)).toNat * 5)).off + 4,none⟩ = some (.slice A105_4 ((kw l0_0 (ji14)).f4).length c105_4)) (w19) from⟨(I BK103.out 0).trans rfl,(I BK103.out 1).trans rfl,(I BK103.out 2).trans rfl,(I BK103.out 3).trans rfl,(I BK103.out 4).trans rfl,(I BK101.out 0).trans rfl,(I BK101.out 1).trans rfl,(I BK101.out 2).trans rfl,(I BK101.out 3).trans rfl,((HB.out.cell (World.block_lt_of_cell? w _ hw105_0)).trans hw105_0),((HB.out.cell (World.block_lt_of_cell? w _ hw105_1)).trans hw105_1),((HB.out.cell (World.block_lt_of_cell? w _ hw105_2)).trans hw105_2),((HB.out.cell (World.block_lt_of_cell? w _ hw105_3)).trans hw105_3),((HB.out.cell (World.block_lt_of_cell? w _ hw105_4)).trans hw105_4)⟩)
            obtain⟨hS0_,hS1_,hS2_,hS3_,hS4_,hS5_,hS6_,hS7_,hS8_,hS9_,hS10_,hS11_,hS12_,hS13_⟩:=hS_
            go_quiet ((first|(go_at_call 37;exact Calls.quiet_of ((qxq.calls k1 ((kw l0_0 x12_1).f0) true _ A11.out).mono fun _ _ h=>⟨h.1,h.2.out⟩))|(go_at_call 38;exact Calls.quiet_of ((qvw.calls k1 ((kw l0_0 (ji14)).f0) ((kw l0_0 x12_1).f0) t106 _ A17.out).mono fun _ _ h=>⟨h.1,h.2.out⟩))))
            clear hS0_ hS1_ hS2_ hS3_ hS4_ hS5_ hS6_ hS7_ hS8_ hS9_ hS10_ hS11_ hS12_ hS13_
            replace BK101:=X.mk (qj BK101.out nq)
            replace BK103:=X.mk (qj BK103.out nq)
            replace HB:=X.mk (U HB.out nq)
            replace hx105_0:(World.drewN w19 nq).cell? _=_:=hx105_0
            replace hx105_1:(World.drewN w19 nq).cell? _=_:=hx105_1
            replace hx105_2:(World.drewN w19 nq).cell? _=_:=hx105_2
            replace hx105_3:(World.drewN w19 nq).cell? _=_:=hx105_3
            replace hx105_4:(World.drewN w19 nq).cell? _=_:=hx105_4
            generalize World.drewN w19 nq=w20 at BK101 BK103 HB HR105_1 HR105_2 HR105_3 HR105_4 hx105_0 hx105_1 hx105_2 hx105_3 hx105_4 ⊢
            try go_wp2
            go_meet
            case rel=>exact⟨_,(true),(by first|rfl|(simp;done)|(simp[*];done)),H',⟨by have:=HK1.out;first|omega|exact Nat.le_refl _⟩,⟨by(with_reducible repeat(first|refine qj ?_ _|refine qk ?_|refine qz ?_ _));exact BK101.out⟩,⟨by(with_reducible repeat(first|refine qj ?_ _|refine qk ?_|refine qz ?_ _));exact BK103.out⟩,⟨by repeat(first|(with_reducible first|exact HB.out|apply O|apply U|apply L|refine qq ?_ GE101.out|refine qq ?_ GE103.out)|exact HB.out)⟩⟩
           ·rw[if_neg c18] at H
            have c18b0:decide (0≤t106)=false:=decide_eq_false c18
            clear c18
            by_cases c21:(((kw l0_0 x12_1).f1).length:Int)=0
            ·rw[if_pos c21] at H
             have c21b0:((((kw l0_0 x12_1).f1).length:Int) == 0)=true:=beq_iff_eq.mpr c21
             have c21b1:((((kw l0_0 x12_1).f1).length:Int) != 0)=false:=bne_eq_false_iff_eq.mpr c21
             clear c21
             by_cases c22:(((kw l0_0 x12_1).f2).length:Int) > 5
             ·rw[if_pos c22] at H
              have c22b0:decide (5 < (((kw l0_0 x12_1).f2).length:Int))=true:=decide_eq_true c22
              have c22b1:decide (5 < ((kw l0_0 x12_1).f2).length)=true:=decide_eq_true (by omega)
              clear c22
              have H':=X.mk H
              clear H
              try go_wp2
              obtain⟨w23,e_⟩:∃ v_,v_=(((((w8.setCell ⟨gb103,0,none⟩ (.string ((kw l0_0 x12_1).f0))).setCell ⟨gb103,1,none⟩ (.slice A102_1 ((kw l0_0 x12_1).f1).length c102_1)).setCell ⟨gb103,2,none⟩ (.slice A102_2 ((kw l0_0 x12_1).f2).length c102_2)).setCell ⟨gb103,3,none⟩ (.slice A102_3 ((kw l0_0 x12_1).f3).length c102_3)).setCell ⟨gb103,4,none⟩ (.slice A102_4 ((kw l0_0 x12_1).f4).length c102_4)):=⟨_,rfl⟩
              have n0_:X (w23.heap[gb101]? = some (.cells #[.slice (some ad102) l0_0.length c0_0,.slice A0_1 l0_1.length c0_1,.int .i64 a0_2,.int .i64 a0_3] 45 (0,0))):=⟨by rewrite[e_];exact far5 BK101.out NB101_103.out⟩
              have n1_:X (w23.heap[gb103]? = some (.cells #[.string ((kw l0_0 x12_1).f0),.slice A102_1 ((kw l0_0 x12_1).f1).length c102_1,.slice A102_2 ((kw l0_0 x12_1).f2).length c102_2,.slice A102_3 ((kw l0_0 x12_1).f3).length c102_3,.slice A102_4 ((kw l0_0 x12_1).f4).length c102_4] 77 (0,0))):=⟨by rewrite[e_];exact put5 BK103.out⟩
              have n2_:X (Below w.heap.size w w23):=⟨by rewrite[e_];repeat(first|(with_reducible first|exact HB.out|apply O|apply U|apply L|refine qq ?_ GE101.out|refine qq ?_ GE103.out)|exact HB.out)⟩
              (try clear BK101)
              (try clear BK103)
              (try clear HB)
              rewrite[←e_]
              clear e_
              have BK101:=n0_
              have BK103:=n1_
              have HB:=n2_
              clear n0_ n1_ n2_
              have p105 : 0≤((ji14):Int):=of_decide_eq_true (by assumption)
              have q105:(ji14) < (l0_0.length:Int):=of_decide_eq_true (by assumption)
              obtain⟨ad105,A105_1,c105_1,A105_2,c105_2,A105_3,c105_3,A105_4,c105_4,e105,hx105_0,hx105_1,hx105_2,hx105_3,hx105_4,hl105_1,hi105_1,hl105_2,hi105_2,hl105_3,hi105_3,hl105_4,hi105_4⟩:=at_T77 HR0_0.out (ji14) p105 q105
              have hw105_4:=hx105_4
              have hw105_3:=hx105_3
              have hw105_2:=hx105_2
              have hw105_1:=hx105_1
              have hw105_0:=hx105_0
              obtain rfl:ad102=ad105:=(by injection e105)
              replace hx105_0:=(HB.out.cell (World.block_lt_of_cell? w _ hx105_0)).trans hx105_0
              replace hx105_1:=(HB.out.cell (World.block_lt_of_cell? w _ hx105_1)).trans hx105_1
              replace hx105_2:=(HB.out.cell (World.block_lt_of_cell? w _ hx105_2)).trans hx105_2
              replace hx105_3:=(HB.out.cell (World.block_lt_of_cell? w _ hx105_3)).trans hx105_3
              replace hx105_4:=(HB.out.cell (World.block_lt_of_cell? w _ hx105_4)).trans hx105_4
              have HR105_1:=X.mk hi105_1
              have HC105_1:=X.mk hl105_1
              clear hi105_1 hl105_1
              have HR105_2:=X.mk hi105_2
              have HC105_2:=X.mk hl105_2
              clear hi105_2 hl105_2
              have HR105_3:=X.mk hi105_3
              have HC105_3:=X.mk hl105_3
              clear hi105_3 hl105_3
              have HR105_4:=X.mk hi105_4
              have HC105_4:=X.mk hl105_4
              clear hi105_4 hl105_4
              replace p105:=eq_true p105
              replace q105:=eq_true q105
              have hS_:=(show(fun w'=>w'.cell? ⟨gb103,0,none⟩ = some (.string ((kw l0_0 x12_1).f0))∧w'.cell? ⟨gb103,1,none⟩ = some (.slice A102_1 ((kw l0_0 x12_1).f1).length c102_1)∧w'.cell? ⟨gb103,2,none⟩ = some (.slice A102_2 ((kw l0_0 x12_1).f2).length c102_2)∧w'.cell? ⟨gb103,3,none⟩ = some (.slice A102_3 ((kw l0_0 x12_1).f3).length c102_3)∧w'.cell? ⟨gb103,4,none⟩ = some (.slice A102_4 ((kw l0_0 x12_1).f4).length c102_4)∧w'.cell? ⟨gb101,0,none⟩ = some (.slice (some ad102) l0_0.length c0_0)∧w'.cell? ⟨gb101,1,none⟩ = some (.slice A0_1 l0_1.length c0_1)∧w'.cell? ⟨gb101,2,none⟩ = some (.int .i64 a0_2)∧w'.cell? ⟨gb101,3,none⟩ = some (.int .i64 a0_3)∧w'.cell? (ad102.add (((ji14)).toNat * 5))=some (.string ((kw l0_0 (ji14)).f0))∧w'.cell? ⟨(ad102.add (((ji14)).toNat * 5)).block,(ad102.add (((ji14)).toNat * 5)).off + 1,none⟩ = some (.slice A105_1 ((kw l0_0 (ji14)).f1).length c105_1)∧w'.cell? ⟨(ad102.add (((ji14)).toNat * 5)).block,(ad102.add (((ji14)).toNat * 5)).off + 2,none⟩ = some (.slice A105_2 ((kw l0_0 (ji14)).f2).length c105_2)∧w'.cell? ⟨(ad102.add (((ji14)).toNat * 5)).block,(ad102.add (((ji14)).toNat * 5)).off + 3,none⟩ = some (.slice A105_3 ((kw l0_0 (ji14)).f3).length c105_3)∧w'.cell? ⟨(ad102.add (((ji14)).toNat * 5)).block,(ad102.add (((ji14)).toNat * 5)).off + 4,none⟩ = some (.slice A105_4 ((kw l0_0 (ji14)).f4).length c105_4)) (w23) from⟨(I BK103.out 0).trans rfl,(I BK103.out 1).trans rfl,(I BK103.out 2).trans rfl,(I BK103.out 3).trans rfl,(I BK103.out 4).trans rfl,(I BK101.out 0).trans rfl,(I BK101.out 1).trans rfl,(I BK101.out 2).trans rfl,(I BK101.out 3).trans rfl,((HB.out.cell (World.block_lt_of_cell? w _ hw105_0)).trans hw105_0),((HB.out.cell (World.block_lt_of_cell? w _ hw105_1)).trans hw105_1),((HB.out.cell (World.block_lt_of_cell? w _ hw105_2)).trans hw105_2),((HB.out.cell (World.block_lt_of_cell? w _ hw105_3)).trans hw105_3),((HB.out.cell (World.block_lt_of_cell? w _ hw105_4)).trans hw105_4)⟩)
              obtain⟨hS0_,hS1_,hS2_,hS3_,hS4_,hS5_,hS6_,hS7_,hS8_,hS9_,hS10_,hS11_,hS12_,hS13_⟩:=hS_
              go_quiet ((first|(go_at_call 37;exact Calls.quiet_of ((qxq.calls k1 ((kw l0_0 x12_1).f0) true _ A11.out).mono fun _ _ h=>⟨h.1,h.2.out⟩))|(go_at_call 38;exact Calls.quiet_of ((qvw.calls k1 ((kw l0_0 (ji14)).f0) ((kw l0_0 x12_1).f0) t106 _ A17.out).mono fun _ _ h=>⟨h.1,h.2.out⟩))))
              clear hS0_ hS1_ hS2_ hS3_ hS4_ hS5_ hS6_ hS7_ hS8_ hS9_ hS10_ hS11_ hS12_ hS13_
              replace BK101:=X.mk (qj BK101.out nq)
              replace BK103:=X.mk (qj BK103.out nq)
              replace HB:=X.mk (U HB.out nq)
              replace hx105_0:(World.drewN w23 nq).cell? _=_:=hx105_0
              replace hx105_1:(World.drewN w23 nq).cell? _=_:=hx105_1
              replace hx105_2:(World.drewN w23 nq).cell? _=_:=hx105_2
              replace hx105_3:(World.drewN w23 nq).cell? _=_:=hx105_3
              replace hx105_4:(World.drewN w23 nq).cell? _=_:=hx105_4
              generalize World.drewN w23 nq=w24 at BK101 BK103 HB HR105_1 HR105_2 HR105_3 HR105_4 hx105_0 hx105_1 hx105_2 hx105_3 hx105_4 ⊢
              try go_wp2
              go_meet
              case rel=>exact⟨_,(true),(by first|rfl|(simp;done)|(simp[*];done)),H',⟨by have:=HK1.out;first|omega|exact Nat.le_refl _⟩,⟨by(with_reducible repeat(first|refine qj ?_ _|refine qk ?_|refine qz ?_ _));exact BK101.out⟩,⟨by(with_reducible repeat(first|refine qj ?_ _|refine qk ?_|refine qz ?_ _));exact BK103.out⟩,⟨by repeat(first|(with_reducible first|exact HB.out|apply O|apply U|apply L|refine qq ?_ GE101.out|refine qq ?_ GE103.out)|exact HB.out)⟩⟩
             ·rw[if_neg c22] at H
              have c22b0:decide (5 < (((kw l0_0 x12_1).f2).length:Int))=false:=decide_eq_false c22
              have c22b1:decide (5 < ((kw l0_0 x12_1).f2).length)=false:=decide_eq_false (by omega)
              clear c22
              replace H:=jq8.mp H
              obtain⟨t107,A250,H⟩:=H
              try dsimp only at H
              have A25:=X.mk A250
              clear A250
              by_cases c26:t107=true
              ·subst c26
               have H1:(qvz.j1 k1 l0_0 (l0_0.length:Int) x12_1 (decide ((((kw l0_0 x12_1).f4).length:Int) > 4)) l0_0 l0_1 a0_2 a0_3 ((kw l0_0 x12_1).f0) ((kw l0_0 x12_1).f1) ((kw l0_0 x12_1).f2) ((kw l0_0 x12_1).f3) ((kw l0_0 x12_1).f4))=some r:=by rw[if_pos rfl] at H;exact H
               clear H
               have H:=H1
               clear H1
               have H':=X.mk H
               clear H
               try go_wp2
               obtain⟨w27,e_⟩:∃ v_,v_=(((((w8.setCell ⟨gb103,0,none⟩ (.string ((kw l0_0 x12_1).f0))).setCell ⟨gb103,1,none⟩ (.slice A102_1 ((kw l0_0 x12_1).f1).length c102_1)).setCell ⟨gb103,2,none⟩ (.slice A102_2 ((kw l0_0 x12_1).f2).length c102_2)).setCell ⟨gb103,3,none⟩ (.slice A102_3 ((kw l0_0 x12_1).f3).length c102_3)).setCell ⟨gb103,4,none⟩ (.slice A102_4 ((kw l0_0 x12_1).f4).length c102_4)):=⟨_,rfl⟩
               have n0_:X (w27.heap[gb101]? = some (.cells #[.slice (some ad102) l0_0.length c0_0,.slice A0_1 l0_1.length c0_1,.int .i64 a0_2,.int .i64 a0_3] 45 (0,0))):=⟨by rewrite[e_];exact far5 BK101.out NB101_103.out⟩
               have n1_:X (w27.heap[gb103]? = some (.cells #[.string ((kw l0_0 x12_1).f0),.slice A102_1 ((kw l0_0 x12_1).f1).length c102_1,.slice A102_2 ((kw l0_0 x12_1).f2).length c102_2,.slice A102_3 ((kw l0_0 x12_1).f3).length c102_3,.slice A102_4 ((kw l0_0 x12_1).f4).length c102_4] 77 (0,0))):=⟨by rewrite[e_];exact put5 BK103.out⟩
               have n2_:X (Below w.heap.size w w27):=⟨by rewrite[e_];repeat(first|(with_reducible first|exact HB.out|apply O|apply U|apply L|refine qq ?_ GE101.out|refine qq ?_ GE103.out)|exact HB.out)⟩
               (try clear BK101)
               (try clear BK103)
               (try clear HB)
               rewrite[←e_]
               clear e_
               have BK101:=n0_
               have BK103:=n1_
               have HB:=n2_
               clear n0_ n1_ n2_
               have p105 : 0≤((ji14):Int):=of_decide_eq_true (by assumption)
               have q105:(ji14) < (l0_0.length:Int):=of_decide_eq_true (by assumption)
               obtain⟨ad105,A105_1,c105_1,A105_2,c105_2,A105_3,c105_3,A105_4,c105_4,e105,hx105_0,hx105_1,hx105_2,hx105_3,hx105_4,hl105_1,hi105_1,hl105_2,hi105_2,hl105_3,hi105_3,hl105_4,hi105_4⟩:=at_T77 HR0_0.out (ji14) p105 q105
               have hw105_4:=hx105_4
               have hw105_3:=hx105_3
               have hw105_2:=hx105_2
               have hw105_1:=hx105_1
               have hw105_0:=hx105_0
               obtain rfl:ad102=ad105:=(by injection e105)
               replace hx105_0:=(HB.out.cell (World.block_lt_of_cell? w _ hx105_0)).trans hx105_0
               replace hx105_1:=(HB.out.cell (World.block_lt_of_cell? w _ hx105_1)).trans hx105_1
               replace hx105_2:=(HB.out.cell (World.block_lt_of_cell? w _ hx105_2)).trans hx105_2
               replace hx105_3:=(HB.out.cell (World.block_lt_of_cell? w _ hx105_3)).trans hx105_3
               replace hx105_4:=(HB.out.cell (World.block_lt_of_cell? w _ hx105_4)).trans hx105_4
               have HR105_1:=X.mk hi105_1
               have HC105_1:=X.mk hl105_1
               clear hi105_1 hl105_1
               have HR105_2:=X.mk hi105_2
               have HC105_2:=X.mk hl105_2
               clear hi105_2 hl105_2
               have HR105_3:=X.mk hi105_3
               have HC105_3:=X.mk hl105_3
               clear hi105_3 hl105_3
               have HR105_4:=X.mk hi105_4
               have HC105_4:=X.mk hl105_4
               clear hi105_4 hl105_4
               replace p105:=eq_true p105
               replace q105:=eq_true q105
               have hS_:=(show(fun w'=>w'.cell? ⟨gb103,0,none⟩ = some (.string ((kw l0_0 x12_1).f0))∧w'.cell? ⟨gb103,1,none⟩ = some (.slice A102_1 ((kw l0_0 x12_1).f1).length c102_1)∧w'.cell? ⟨gb103,2,none⟩ = some (.slice A102_2 ((kw l0_0 x12_1).f2).length c102_2)∧w'.cell? ⟨gb103,3,none⟩ = some (.slice A102_3 ((kw l0_0 x12_1).f3).length c102_3)∧w'.cell? ⟨gb103,4,none⟩ = some (.slice A102_4 ((kw l0_0 x12_1).f4).length c102_4)∧w'.cell? ⟨gb101,0,none⟩ = some (.slice (some ad102) l0_0.length c0_0)∧w'.cell? ⟨gb101,1,none⟩ = some (.slice A0_1 l0_1.length c0_1)∧w'.cell? ⟨gb101,2,none⟩ = some (.int .i64 a0_2)∧w'.cell? ⟨gb101,3,none⟩ = some (.int .i64 a0_3)∧w'.cell? (ad102.add (((ji14)).toNat * 5))=some (.string ((kw l0_0 (ji14)).f0))∧w'.cell? ⟨(ad102.add (((ji14)).toNat * 5)).block,(ad102.add (((ji14)).toNat * 5)).off + 1,none⟩ = some (.slice A105_1 ((kw l0_0 (ji14)).f1).length c105_1)∧w'.cell? ⟨(ad102.add (((ji14)).toNat * 5)).block,(ad102.add (((ji14)).toNat * 5)).off + 2,none⟩ = some (.slice A105_2 ((kw l0_0 (ji14)).f2).length c105_2)∧w'.cell? ⟨(ad102.add (((ji14)).toNat * 5)).block,(ad102.add (((ji14)).toNat * 5)).off + 3,none⟩ = some (.slice A105_3 ((kw l0_0 (ji14)).f3).length c105_3)∧w'.cell? ⟨(ad102.add (((ji14)).toNat * 5)).block,(ad102.add (((ji14)).toNat * 5)).off + 4,none⟩ = some (.slice A105_4 ((kw l0_0 (ji14)).f4).length c105_4)) (w27) from⟨(I BK103.out 0).trans rfl,(I BK103.out 1).trans rfl,(I BK103.out 2).trans rfl,(I BK103.out 3).trans rfl,(I BK103.out 4).trans rfl,(I BK101.out 0).trans rfl,(I BK101.out 1).trans rfl,(I BK101.out 2).trans rfl,(I BK101.out 3).trans rfl,((HB.out.cell (World.block_lt_of_cell? w _ hw105_0)).trans hw105_0),((HB.out.cell (World.block_lt_of_cell? w _ hw105_1)).trans hw105_1),((HB.out.cell (World.block_lt_of_cell? w _ hw105_2)).trans hw105_2),((HB.out.cell (World.block_lt_of_cell? w _ hw105_3)).trans hw105_3),((HB.out.cell (World.block_lt_of_cell? w _ hw105_4)).trans hw105_4)⟩)
               obtain⟨hS0_,hS1_,hS2_,hS3_,hS4_,hS5_,hS6_,hS7_,hS8_,hS9_,hS10_,hS11_,hS12_,hS13_⟩:=hS_
               go_quiet ((first|(go_at_call 37;exact Calls.quiet_of ((qxq.calls k1 ((kw l0_0 x12_1).f0) true _ A11.out).mono fun _ _ h=>⟨h.1,h.2.out⟩))|(go_at_call 38;exact Calls.quiet_of ((qvw.calls k1 ((kw l0_0 (ji14)).f0) ((kw l0_0 x12_1).f0) t106 _ A17.out).mono fun _ _ h=>⟨h.1,h.2.out⟩))|(go_at_call 44;exact Calls.quiet_of ((qvk.calls k1 _ _ ((kw l0_0 x12_1).f3) true _ (by repeat(first|exact(Kd.C_below HR102_3.out (by solve_by_elim (maxDepth:=20) only[HB.out,O,U,L,qq,GE101.out,qq,GE103.out]))|(with_reducible refine Kd.C_alloc ?_ _)|(with_reducible refine Kd.C_drewN ?_ _)|(with_reducible refine Kd.C_drew ?_))) (by exact HC102_3.out) A25.out).mono fun _ _ h=>⟨h.1,h.2.out⟩))))
               clear hS0_ hS1_ hS2_ hS3_ hS4_ hS5_ hS6_ hS7_ hS8_ hS9_ hS10_ hS11_ hS12_ hS13_
               replace BK101:=X.mk (qj BK101.out nq)
               replace BK103:=X.mk (qj BK103.out nq)
               replace HB:=X.mk (U HB.out nq)
               replace hx105_0:(World.drewN w27 nq).cell? _=_:=hx105_0
               replace hx105_1:(World.drewN w27 nq).cell? _=_:=hx105_1
               replace hx105_2:(World.drewN w27 nq).cell? _=_:=hx105_2
               replace hx105_3:(World.drewN w27 nq).cell? _=_:=hx105_3
               replace hx105_4:(World.drewN w27 nq).cell? _=_:=hx105_4
               generalize World.drewN w27 nq=w28 at BK101 BK103 HB HR105_1 HR105_2 HR105_3 HR105_4 hx105_0 hx105_1 hx105_2 hx105_3 hx105_4 ⊢
               try go_wp2
               go_meet
               case rel=>exact⟨_,(decide ((((kw l0_0 x12_1).f4).length:Int) > 4)),(by first|rfl|(simp;done)|(simp[*];done)),H',⟨by have:=HK1.out;first|omega|exact Nat.le_refl _⟩,⟨by(with_reducible repeat(first|refine qj ?_ _|refine qk ?_|refine qz ?_ _));exact BK101.out⟩,⟨by(with_reducible repeat(first|refine qj ?_ _|refine qk ?_|refine qz ?_ _));exact BK103.out⟩,⟨by repeat(first|(with_reducible first|exact HB.out|apply O|apply U|apply L|refine qq ?_ GE101.out|refine qq ?_ GE103.out)|exact HB.out)⟩⟩
              ·replace c26:=jq9.mpr c26
               subst c26
               have H1:(qvz.j1 k1 l0_0 (l0_0.length:Int) x12_1 true l0_0 l0_1 a0_2 a0_3 ((kw l0_0 x12_1).f0) ((kw l0_0 x12_1).f1) ((kw l0_0 x12_1).f2) ((kw l0_0 x12_1).f3) ((kw l0_0 x12_1).f4))=some r:=by rw[if_neg (show ¬ (false=true) by decide)] at H;exact H
               clear H
               have H:=H1
               clear H1
               have H':=X.mk H
               clear H
               try go_wp2
               obtain⟨w29,e_⟩:∃ v_,v_=(((((w8.setCell ⟨gb103,0,none⟩ (.string ((kw l0_0 x12_1).f0))).setCell ⟨gb103,1,none⟩ (.slice A102_1 ((kw l0_0 x12_1).f1).length c102_1)).setCell ⟨gb103,2,none⟩ (.slice A102_2 ((kw l0_0 x12_1).f2).length c102_2)).setCell ⟨gb103,3,none⟩ (.slice A102_3 ((kw l0_0 x12_1).f3).length c102_3)).setCell ⟨gb103,4,none⟩ (.slice A102_4 ((kw l0_0 x12_1).f4).length c102_4)):=⟨_,rfl⟩
               have n0_:X (w29.heap[gb101]? = some (.cells #[.slice (some ad102) l0_0.length c0_0,.slice A0_1 l0_1.length c0_1,.int .i64 a0_2,.int .i64 a0_3] 45 (0,0))):=⟨by rewrite[e_];exact far5 BK101.out NB101_103.out⟩
               have n1_:X (w29.heap[gb103]? = some (.cells #[.string ((kw l0_0 x12_1).f0),.slice A102_1 ((kw l0_0 x12_1).f1).length c102_1,.slice A102_2 ((kw l0_0 x12_1).f2).length c102_2,.slice A102_3 ((kw l0_0 x12_1).f3).length c102_3,.slice A102_4 ((kw l0_0 x12_1).f4).length c102_4] 77 (0,0))):=⟨by rewrite[e_];exact put5 BK103.out⟩
               have n2_:X (Below w.heap.size w w29):=⟨by rewrite[e_];repeat(first|(with_reducible first|exact HB.out|apply O|apply U|apply L|refine qq ?_ GE101.out|refine qq ?_ GE103.out)|exact HB.out)⟩
               (try clear BK101)
               (try clear BK103)
               (try clear HB)
               rewrite[←e_]
               clear e_
               have BK101:=n0_
               have BK103:=n1_
               have HB:=n2_
               clear n0_ n1_ n2_
               have p105 : 0≤((ji14):Int):=of_decide_eq_true (by assumption)
               have q105:(ji14) < (l0_0.length:Int):=of_decide_eq_true (by assumption)
               obtain⟨ad105,A105_1,c105_1,A105_2,c105_2,A105_3,c105_3,A105_4,c105_4,e105,hx105_0,hx105_1,hx105_2,hx105_3,hx105_4,hl105_1,hi105_1,hl105_2,hi105_2,hl105_3,hi105_3,hl105_4,hi105_4⟩:=at_T77 HR0_0.out (ji14) p105 q105
               have hw105_4:=hx105_4
               have hw105_3:=hx105_3
               have hw105_2:=hx105_2
               have hw105_1:=hx105_1
               have hw105_0:=hx105_0
               obtain rfl:ad102=ad105:=(by injection e105)
               replace hx105_0:=(HB.out.cell (World.block_lt_of_cell? w _ hx105_0)).trans hx105_0
               replace hx105_1:=(HB.out.cell (World.block_lt_of_cell? w _ hx105_1)).trans hx105_1
               replace hx105_2:=(HB.out.cell (World.block_lt_of_cell? w _ hx105_2)).trans hx105_2
               replace hx105_3:=(HB.out.cell (World.block_lt_of_cell? w _ hx105_3)).trans hx105_3
               replace hx105_4:=(HB.out.cell (World.block_lt_of_cell? w _ hx105_4)).trans hx105_4
               have HR105_1:=X.mk hi105_1
               have HC105_1:=X.mk hl105_1
               clear hi105_1 hl105_1
               have HR105_2:=X.mk hi105_2
               have HC105_2:=X.mk hl105_2
               clear hi105_2 hl105_2
               have HR105_3:=X.mk hi105_3
               have HC105_3:=X.mk hl105_3
               clear hi105_3 hl105_3
               have HR105_4:=X.mk hi105_4
               have HC105_4:=X.mk hl105_4
               clear hi105_4 hl105_4
               replace p105:=eq_true p105
               replace q105:=eq_true q105
               have hS_:=(show(fun w'=>w'.cell? ⟨gb103,0,none⟩ = some (.string ((kw l0_0 x12_1).f0))∧w'.cell? ⟨gb103,1,none⟩ = some (.slice A102_1 ((kw l0_0 x12_1).f1).length c102_1)∧w'.cell? ⟨gb103,2,none⟩ = some (.slice A102_2 ((kw l0_0 x12_1).f2).length c102_2)∧w'.cell? ⟨gb103,3,none⟩ = some (.slice A102_3 ((kw l0_0 x12_1).f3).length c102_3)∧w'.cell? ⟨gb103,4,none⟩ = some (.slice A102_4 ((kw l0_0 x12_1).f4).length c102_4)∧w'.cell? ⟨gb101,0,none⟩ = some (.slice (some ad102) l0_0.length c0_0)∧w'.cell? ⟨gb101,1,none⟩ = some (.slice A0_1 l0_1.length c0_1)∧w'.cell? ⟨gb101,2,none⟩ = some (.int .i64 a0_2)∧w'.cell? ⟨gb101,3,none⟩ = some (.int .i64 a0_3)∧w'.cell? (ad102.add (((ji14)).toNat * 5))=some (.string ((kw l0_0 (ji14)).f0))∧w'.cell? ⟨(ad102.add (((ji14)).toNat * 5)).block,(ad102.add (((ji14)).toNat * 5)).off + 1,none⟩ = some (.slice A105_1 ((kw l0_0 (ji14)).f1).length c105_1)∧w'.cell? ⟨(ad102.add (((ji14)).toNat * 5)).block,(ad102.add (((ji14)).toNat * 5)).off + 2,none⟩ = some (.slice A105_2 ((kw l0_0 (ji14)).f2).length c105_2)∧w'.cell? ⟨(ad102.add (((ji14)).toNat * 5)).block,(ad102.add (((ji14)).toNat * 5)).off + 3,none⟩ = some (.slice A105_3 ((kw l0_0 (ji14)).f3).length c105_3)∧w'.cell? ⟨(ad102.add (((ji14)).toNat * 5)).block,(ad102.add (((ji14)).toNat * 5)).off + 4,none⟩ = some (.slice A105_4 ((kw l0_0 (ji14)).f4).length c105_4)) (w29) from⟨(I BK103.out 0).trans rfl,(I BK103.out 1).trans rfl,(I BK103.out 2).trans rfl,(I BK103.out 3).trans rfl,(I BK103.out 4).trans rfl,(I BK101.out 0).trans rfl,(I BK101.out 1).trans rfl,(I BK101.out 2).trans rfl,(I BK101.out 3).trans rfl,((HB.out.cell (World.block_lt_of_cell? w _ hw105_0)).trans hw105_0),((HB.out.cell (World.block_lt_of_cell? w _ hw105_1)).trans hw105_1),((HB.out.cell (World.block_lt_of_cell? w _ hw105_2)).trans hw105_2),((HB.out.cell (World.block_lt_of_cell? w _ hw105_3)).trans hw105_3),((HB.out.cell (World.block_lt_of_cell? w _ hw105_4)).trans hw105_4)⟩)
               obtain⟨hS0_,hS1_,hS2_,hS3_,hS4_,hS5_,hS6_,hS7_,hS8_,hS9_,hS10_,hS11_,hS12_,hS13_⟩:=hS_
               go_quiet ((first|(go_at_call 37;exact Calls.quiet_of ((qxq.calls k1 ((kw l0_0 x12_1).f0) true _ A11.out).mono fun _ _ h=>⟨h.1,h.2.out⟩))|(go_at_call 38;exact Calls.quiet_of ((qvw.calls k1 ((kw l0_0 (ji14)).f0) ((kw l0_0 x12_1).f0) t106 _ A17.out).mono fun _ _ h=>⟨h.1,h.2.out⟩))|(go_at_call 44;exact Calls.quiet_of ((qvk.calls k1 _ _ ((kw l0_0 x12_1).f3) false _ (by repeat(first|exact(Kd.C_below HR102_3.out (by solve_by_elim (maxDepth:=20) only[HB.out,O,U,L,qq,GE101.out,qq,GE103.out]))|(with_reducible refine Kd.C_alloc ?_ _)|(with_reducible refine Kd.C_drewN ?_ _)|(with_reducible refine Kd.C_drew ?_))) (by exact HC102_3.out) A25.out).mono fun _ _ h=>⟨h.1,h.2.out⟩))))
               clear hS0_ hS1_ hS2_ hS3_ hS4_ hS5_ hS6_ hS7_ hS8_ hS9_ hS10_ hS11_ hS12_ hS13_
               replace BK101:=X.mk (qj BK101.out nq)
               replace BK103:=X.mk (qj BK103.out nq)
               replace HB:=X.mk (U HB.out nq)
               replace hx105_0:(World.drewN w29 nq).cell? _=_:=hx105_0
               replace hx105_1:(World.drewN w29 nq).cell? _=_:=hx105_1
               replace hx105_2:(World.drewN w29 nq).cell? _=_:=hx105_2
               replace hx105_3:(World.drewN w29 nq).cell? _=_:=hx105_3
               replace hx105_4:(World.drewN w29 nq).cell? _=_:=hx105_4
               generalize World.drewN w29 nq=w30 at BK101 BK103 HB HR105_1 HR105_2 HR105_3 HR105_4 hx105_0 hx105_1 hx105_2 hx105_3 hx105_4 ⊢
               try go_wp2
               go_meet
               case rel=>exact⟨_,(true),(by first|rfl|(simp;done)|(simp[*];done)),H',⟨by have:=HK1.out;first|omega|exact Nat.le_refl _⟩,⟨by(with_reducible repeat(first|refine qj ?_ _|refine qk ?_|refine qz ?_ _));exact BK101.out⟩,⟨by(with_reducible repeat(first|refine qj ?_ _|refine qk ?_|refine qz ?_ _));exact BK103.out⟩,⟨by repeat(first|(with_reducible first|exact HB.out|apply O|apply U|apply L|refine qq ?_ GE101.out|refine qq ?_ GE103.out)|exact HB.out)⟩⟩
            ·rw[if_neg c21] at H
             have c21b0:((((kw l0_0 x12_1).f1).length:Int) == 0)=false:=beq_eq_false_iff_ne.mpr c21
             have c21b1:((((kw l0_0 x12_1).f1).length:Int) != 0)=true:=bne_iff_ne.mpr c21
             have c21b2:¬ (((kw l0_0 x12_1).f1)=[]):=fun h_=>c21 (by rw[h_];rfl)
             by_cases c31:(((kw l0_0 x12_1).f1).length:Int)=16
             ·rw[if_pos c31] at H
              have c31b0:((((kw l0_0 x12_1).f1).length:Int) == 16)=true:=beq_iff_eq.mpr c31
              have c31b1:((((kw l0_0 x12_1).f1).length:Int) != 16)=false:=bne_eq_false_iff_eq.mpr c31
              clear c31
              by_cases c32:(((kw l0_0 x12_1).f2).length:Int) > 5
              ·rw[if_pos c32] at H
               have c32b0:decide (5 < (((kw l0_0 x12_1).f2).length:Int))=true:=decide_eq_true c32
               have c32b1:decide (5 < ((kw l0_0 x12_1).f2).length)=true:=decide_eq_true (by omega)
               clear c32
               have H':=X.mk H
               clear H
               try go_wp2
               obtain⟨w33,e_⟩:∃ v_,v_=(((((w8.setCell ⟨gb103,0,none⟩ (.string ((kw l0_0 x12_1).f0))).setCell ⟨gb103,1,none⟩ (.slice A102_1 ((kw l0_0 x12_1).f1).length c102_1)).setCell ⟨gb103,2,none⟩ (.slice A102_2 ((kw l0_0 x12_1).f2).length c102_2)).setCell ⟨gb103,3,none⟩ (.slice A102_3 ((kw l0_0 x12_1).f3).length c102_3)).setCell ⟨gb103,4,none⟩ (.slice A102_4 ((kw l0_0 x12_1).f4).length c102_4)):=⟨_,rfl⟩
               have n0_:X (w33.heap[gb101]? = some (.cells #[.slice (some ad102) l0_0.length c0_0,.slice A0_1 l0_1.length c0_1,.int .i64 a0_2,.int .i64 a0_3] 45 (0,0))):=⟨by rewrite[e_];exact far5 BK101.out NB101_103.out⟩
               have n1_:X (w33.heap[gb103]? = some (.cells #[.string ((kw l0_0 x12_1).f0),.slice A102_1 ((kw l0_0 x12_1).f1).length c102_1,.slice A102_2 ((kw l0_0 x12_1).f2).length c102_2,.slice A102_3 ((kw l0_0 x12_1).f3).length c102_3,.slice A102_4 ((kw l0_0 x12_1).f4).length c102_4] 77 (0,0))):=⟨by rewrite[e_];exact put5 BK103.out⟩
               have n2_:X (Below w.heap.size w w33):=⟨by rewrite[e_];repeat(first|(with_reducible first|exact HB.out|apply O|apply U|apply L|refine qq ?_ GE101.out|refine qq ?_ GE103.out)|exact HB.out)⟩
               (try clear BK101)
               (try clear BK103)
               (try clear HB)
               rewrite[←e_]
               clear e_
               have BK101:=n0_
               have BK103:=n1_
               have HB:=n2_
               clear n0_ n1_ n2_
               have p105 : 0≤((ji14):Int):=of_decide_eq_true (by assumption)
               have q105:(ji14) < (l0_0.length:Int):=of_decide_eq_true (by assumption)
               obtain⟨ad105,A105_1,c105_1,A105_2,c105_2,A105_3,c105_3,A105_4,c105_4,e105,hx105_0,hx105_1,hx105_2,hx105_3,hx105_4,hl105_1,hi105_1,hl105_2,hi105_2,hl105_3,hi105_3,hl105_4,hi105_4⟩:=at_T77 HR0_0.out (ji14) p105 q105
               have hw105_4:=hx105_4
               have hw105_3:=hx105_3
               have hw105_2:=hx105_2
               have hw105_1:=hx105_1
               have hw105_0:=hx105_0
               obtain rfl:ad102=ad105:=(by injection e105)
               replace hx105_0:=(HB.out.cell (World.block_lt_of_cell? w _ hx105_0)).trans hx105_0
               replace hx105_1:=(HB.out.cell (World.block_lt_of_cell? w _ hx105_1)).trans hx105_1
               replace hx105_2:=(HB.out.cell (World.block_lt_of_cell? w _ hx105_2)).trans hx105_2
               replace hx105_3:=(HB.out.cell (World.block_lt_of_cell? w _ hx105_3)).trans hx105_3
               replace hx105_4:=(HB.out.cell (World.block_lt_of_cell? w _ hx105_4)).trans hx105_4
               have HR105_1:=X.mk hi105_1
               have HC105_1:=X.mk hl105_1
               clear hi105_1 hl105_1
               have HR105_2:=X.mk hi105_2
               have HC105_2:=X.mk hl105_2
               clear hi105_2 hl105_2
               have HR105_3:=X.mk hi105_3
               have HC105_3:=X.mk hl105_3
               clear hi105_3 hl105_3
               have HR105_4:=X.mk hi105_4
               have HC105_4:=X.mk hl105_4
               clear hi105_4 hl105_4
               replace p105:=eq_true p105
               replace q105:=eq_true q105
               have hS_:=(show(fun w'=>w'.cell? ⟨gb103,0,none⟩ = some (.string ((kw l0_0 x12_1).f0))∧w'.cell? ⟨gb103,1,none⟩ = some (.slice A102_1 ((kw l0_0 x12_1).f1).length c102_1)∧w'.cell? ⟨gb103,2,none⟩ = some (.slice A102_2 ((kw l0_0 x12_1).f2).length c102_2)∧w'.cell? ⟨gb103,3,none⟩ = some (.slice A102_3 ((kw l0_0 x12_1).f3).length c102_3)∧w'.cell? ⟨gb103,4,none⟩ = some (.slice A102_4 ((kw l0_0 x12_1).f4).length c102_4)∧w'.cell? ⟨gb101,0,none⟩ = some (.slice (some ad102) l0_0.length c0_0)∧w'.cell? ⟨gb101,1,none⟩ = some (.slice A0_1 l0_1.length c0_1)∧w'.cell? ⟨gb101,2,none⟩ = some (.int .i64 a0_2)∧w'.cell? ⟨gb101,3,none⟩ = some (.int .i64 a0_3)∧w'.cell? (ad102.add (((ji14)).toNat * 5))=some (.string ((kw l0_0 (ji14)).f0))∧w'.cell? ⟨(ad102.add (((ji14)).toNat * 5)).block,(ad102.add (((ji14)).toNat * 5)).off + 1,none⟩ = some (.slice A105_1 ((kw l0_0 (ji14)).f1).length c105_1)∧w'.cell? ⟨(ad102.add (((ji14)).toNat * 5)).block,(ad102.add (((ji14)).toNat * 5)).off + 2,none⟩ = some (.slice A105_2 ((kw l0_0 (ji14)).f2).length c105_2)∧w'.cell? ⟨(ad102.add (((ji14)).toNat * 5)).block,(ad102.add (((ji14)).toNat * 5)).off + 3,none⟩ = some (.slice A105_3 ((kw l0_0 (ji14)).f3).length c105_3)∧w'.cell? ⟨(ad102.add (((ji14)).toNat * 5)).block,(ad102.add (((ji14)).toNat * 5)).off + 4,none⟩ = some (.slice A105_4 ((kw l0_0 (ji14)).f4).length c105_4)) (w33) from⟨(I BK103.out 0).trans rfl,(I BK103.out 1).trans rfl,(I BK103.out 2).trans rfl,(I BK103.out 3).trans rfl,(I BK103.out 4).trans rfl,(I BK101.out 0).trans rfl,(I BK101.out 1).trans rfl,(I BK101.out 2).trans rfl,(I BK101.out 3).trans rfl,((HB.out.cell (World.block_lt_of_cell? w _ hw105_0)).trans hw105_0),((HB.out.cell (World.block_lt_of_cell? w _ hw105_1)).trans hw105_1),((HB.out.cell (World.block_lt_of_cell? w _ hw105_2)).trans hw105_2),((HB.out.cell (World.block_lt_of_cell? w _ hw105_3)).trans hw105_3),((HB.out.cell (World.block_lt_of_cell? w _ hw105_4)).trans hw105_4)⟩)
               obtain⟨hS0_,hS1_,hS2_,hS3_,hS4_,hS5_,hS6_,hS7_,hS8_,hS9_,hS10_,hS11_,hS12_,hS13_⟩:=hS_
               go_quiet ((first|(go_at_call 37;exact Calls.quiet_of ((qxq.calls k1 ((kw l0_0 x12_1).f0) true _ A11.out).mono fun _ _ h=>⟨h.1,h.2.out⟩))|(go_at_call 38;exact Calls.quiet_of ((qvw.calls k1 ((kw l0_0 (ji14)).f0) ((kw l0_0 x12_1).f0) t106 _ A17.out).mono fun _ _ h=>⟨h.1,h.2.out⟩))))
               clear hS0_ hS1_ hS2_ hS3_ hS4_ hS5_ hS6_ hS7_ hS8_ hS9_ hS10_ hS11_ hS12_ hS13_
               replace BK101:=X.mk (qj BK101.out nq)
               replace BK103:=X.mk (qj BK103.out nq)
               replace HB:=X.mk (U HB.out nq)
               replace hx105_0:(World.drewN w33 nq).cell? _=_:=hx105_0
               replace hx105_1:(World.drewN w33 nq).cell? _=_:=hx105_1
               replace hx105_2:(World.drewN w33 nq).cell? _=_:=hx105_2
               replace hx105_3:(World.drewN w33 nq).cell? _=_:=hx105_3
               replace hx105_4:(World.drewN w33 nq).cell? _=_:=hx105_4
               generalize World.drewN w33 nq=w34 at BK101 BK103 HB HR105_1 HR105_2 HR105_3 HR105_4 hx105_0 hx105_1 hx105_2 hx105_3 hx105_4 ⊢
               try go_wp2
               go_meet
               case rel=>exact⟨_,(true),(by first|rfl|(simp;done)|(simp[*];done)),H',⟨by have:=HK1.out;first|omega|exact Nat.le_refl _⟩,⟨by(with_reducible repeat(first|refine qj ?_ _|refine qk ?_|refine qz ?_ _));exact BK101.out⟩,⟨by(with_reducible repeat(first|refine qj ?_ _|refine qk ?_|refine qz ?_ _));exact BK103.out⟩,⟨by repeat(first|(with_reducible first|exact HB.out|apply O|apply U|apply L|refine qq ?_ GE101.out|refine qq ?_ GE103.out)|exact HB.out)⟩⟩
              ·rw[if_neg c32] at H
               have c32b0:decide (5 < (((kw l0_0 x12_1).f2).length:Int))=false:=decide_eq_false c32
               have c32b1:decide (5 < ((kw l0_0 x12_1).f2).length)=false:=decide_eq_false (by omega)
               clear c32
               replace H:=jq8.mp H
               obtain⟨t108,A350,H⟩:=H
               try dsimp only at H
               have A35:=X.mk A350
               clear A350
               by_cases c36:t108=true
               ·subst c36
                have H1:(qvz.j1 k1 l0_0 (l0_0.length:Int) x12_1 (decide ((((kw l0_0 x12_1).f4).length:Int) > 4)) l0_0 l0_1 a0_2 a0_3 ((kw l0_0 x12_1).f0) ((kw l0_0 x12_1).f1) ((kw l0_0 x12_1).f2) ((kw l0_0 x12_1).f3) ((kw l0_0 x12_1).f4))=some r:=by rw[if_pos rfl] at H;exact H
                clear H
                have H:=H1
                clear H1
                have H':=X.mk H
                clear H
                try go_wp2
                obtain⟨w37,e_⟩:∃ v_,v_=(((((w8.setCell ⟨gb103,0,none⟩ (.string ((kw l0_0 x12_1).f0))).setCell ⟨gb103,1,none⟩ (.slice A102_1 ((kw l0_0 x12_1).f1).length c102_1)).setCell ⟨gb103,2,none⟩ (.slice A102_2 ((kw l0_0 x12_1).f2).length c102_2)).setCell ⟨gb103,3,none⟩ (.slice A102_3 ((kw l0_0 x12_1).f3).length c102_3)).setCell ⟨gb103,4,none⟩ (.slice A102_4 ((kw l0_0 x12_1).f4).length c102_4)):=⟨_,rfl⟩
                have n0_:X (w37.heap[gb101]? = some (.cells #[.slice (some ad102) l0_0.length c0_0,.slice A0_1 l0_1.length c0_1,.int .i64 a0_2,.int .i64 a0_3] 45 (0,0))):=⟨by rewrite[e_];exact far5 BK101.out NB101_103.out⟩
                have n1_:X (w37.heap[gb103]? = some (.cells #[.string ((kw l0_0 x12_1).f0),.slice A102_1 ((kw l0_0 x12_1).f1).length c102_1,.slice A102_2 ((kw l0_0 x12_1).f2).length c102_2,.slice A102_3 ((kw l0_0 x12_1).f3).length c102_3,.slice A102_4 ((kw l0_0 x12_1).f4).length c102_4] 77 (0,0))):=⟨by rewrite[e_];exact put5 BK103.out⟩
                have n2_:X (Below w.heap.size w w37):=⟨by rewrite[e_];repeat(first|(with_reducible first|exact HB.out|apply O|apply U|apply L|refine qq ?_ GE101.out|refine qq ?_ GE103.out)|exact HB.out)⟩
                (try clear BK101)
                (try clear BK103)
                (try clear HB)
                rewrite[←e_]
                clear e_
                have BK101:=n0_
                have BK103:=n1_
                have HB:=n2_
                clear n0_ n1_ n2_
                have p105 : 0≤((ji14):Int):=of_decide_eq_true (by assumption)
                have q105:(ji14) < (l0_0.length:Int):=of_decide_eq_true (by assumption)
                obtain⟨ad105,A105_1,c105_1,A105_2,c105_2,A105_3,c105_3,A105_4,c105_4,e105,hx105_0,hx105_1,hx105_2,hx105_3,hx105_4,hl105_1,hi105_1,hl105_2,hi105_2,hl105_3,hi105_3,hl105_4,hi105_4⟩:=at_T77 HR0_0.out (ji14) p105 q105
                have hw105_4:=hx105_4
                have hw105_3:=hx105_3
                have hw105_2:=hx105_2
                have hw105_1:=hx105_1
                have hw105_0:=hx105_0
                obtain rfl:ad102=ad105:=(by injection e105)
                replace hx105_0:=(HB.out.cell (World.block_lt_of_cell? w _ hx105_0)).trans hx105_0
                replace hx105_1:=(HB.out.cell (World.block_lt_of_cell? w _ hx105_1)).trans hx105_1
                replace hx105_2:=(HB.out.cell (World.block_lt_of_cell? w _ hx105_2)).trans hx105_2
                replace hx105_3:=(HB.out.cell (World.block_lt_of_cell? w _ hx105_3)).trans hx105_3
                replace hx105_4:=(HB.out.cell (World.block_lt_of_cell? w _ hx105_4)).trans hx105_4
                have HR105_1:=X.mk hi105_1
                have HC105_1:=X.mk hl105_1
                clear hi105_1 hl105_1
                have HR105_2:=X.mk hi105_2
                have HC105_2:=X.mk hl105_2
                clear hi105_2 hl105_2
                have HR105_3:=X.mk hi105_3
                have HC105_3:=X.mk hl105_3
                clear hi105_3 hl105_3
                have HR105_4:=X.mk hi105_4
                have HC105_4:=X.mk hl105_4
                clear hi105_4 hl105_4
                replace p105:=eq_true p105
                replace q105:=eq_true q105
                have hS_:=(show(fun w'=>w'.cell? ⟨gb103,0,none⟩ = some (.string ((kw l0_0 x12_1).f0))∧w'.cell? ⟨gb103,1,none⟩ = some (.slice A102_1 ((kw l0_0 x12_1).f1).length c102_1)∧w'.cell? ⟨gb103,2,none⟩ = some (.slice A102_2 ((kw l0_0 x12_1).f2).length c102_2)∧w'.cell? ⟨gb103,3,none⟩ = some (.slice A102_3 ((kw l0_0 x12_1).f3).length c102_3)∧w'.cell? ⟨gb103,4,none⟩ = some (.slice A102_4 ((kw l0_0 x12_1).f4).length c102_4)∧w'.cell? ⟨gb101,0,none⟩ = some (.slice (some ad102) l0_0.length c0_0)∧w'.cell? ⟨gb101,1,none⟩ = some (.slice A0_1 l0_1.length c0_1)∧w'.cell? ⟨gb101,2,none⟩ = some (.int .i64 a0_2)∧w'.cell? ⟨gb101,3,none⟩ = some (.int .i64 a0_3)∧w'.cell? (ad102.add (((ji14)).toNat * 5))=some (.string ((kw l0_0 (ji14)).f0))∧w'.cell? ⟨(ad102.add (((ji14)).toNat * 5)).block,(ad102.add (((ji14)).toNat * 5)).off + 1,none⟩ = some (.slice A105_1 ((kw l0_0 (ji14)).f1).length c105_1)∧w'.cell? ⟨(ad102.add (((ji14)).toNat * 5)).block,(ad102.add (((ji14)).toNat * 5)).off + 2,none⟩ = some (.slice A105_2 ((kw l0_0 (ji14)).f2).length c105_2)∧w'.cell? ⟨(ad102.add (((ji14)).toNat * 5)).block,(ad102.add (((ji14)).toNat * 5)).off + 3,none⟩ = some (.slice A105_3 ((kw l0_0 (ji14)).f3).length c105_3)∧w'.cell? ⟨(ad102.add (((ji14)).toNat * 5)).block,(ad102.add (((ji14)).toNat * 5)).off + 4,none⟩ = some (.slice A105_4 ((kw l0_0 (ji14)).f4).length c105_4)) (w37) from⟨(I BK103.out 0).trans rfl,(I BK103.out 1).trans rfl,(I BK103.out 2).trans rfl,(I BK103.out 3).trans rfl,(I BK103.out 4).trans rfl,(I BK101.out 0).trans rfl,(I BK101.out 1).trans rfl,(I BK101.out 2).trans rfl,(I BK101.out 3).trans rfl,((HB.out.cell (World.block_lt_of_cell? w _ hw105_0)).trans hw105_0),((HB.out.cell (World.block_lt_of_cell? w _ hw105_1)).trans hw105_1),((HB.out.cell (World.block_lt_of_cell? w _ hw105_2)).trans hw105_2),((HB.out.cell (World.block_lt_of_cell? w _ hw105_3)).trans hw105_3),((HB.out.cell (World.block_lt_of_cell? w _ hw105_4)).trans hw105_4)⟩)
                obtain⟨hS0_,hS1_,hS2_,hS3_,hS4_,hS5_,hS6_,hS7_,hS8_,hS9_,hS10_,hS11_,hS12_,hS13_⟩:=hS_
                go_quiet ((first|(go_at_call 37;exact Calls.quiet_of ((qxq.calls k1 ((kw l0_0 x12_1).f0) true _ A11.out).mono fun _ _ h=>⟨h.1,h.2.out⟩))|(go_at_call 38;exact Calls.quiet_of ((qvw.calls k1 ((kw l0_0 (ji14)).f0) ((kw l0_0 x12_1).f0) t106 _ A17.out).mono fun _ _ h=>⟨h.1,h.2.out⟩))|(go_at_call 44;exact Calls.quiet_of ((qvk.calls k1 _ _ ((kw l0_0 x12_1).f3) true _ (by repeat(first|exact(Kd.C_below HR102_3.out (by solve_by_elim (maxDepth:=20) only[HB.out,O,U,L,qq,GE101.out,qq,GE103.out]))|(with_reducible refine Kd.C_alloc ?_ _)|(with_reducible refine Kd.C_drewN ?_ _)|(with_reducible refine Kd.C_drew ?_))) (by exact HC102_3.out) A35.out).mono fun _ _ h=>⟨h.1,h.2.out⟩))))
                clear hS0_ hS1_ hS2_ hS3_ hS4_ hS5_ hS6_ hS7_ hS8_ hS9_ hS10_ hS11_ hS12_ hS13_
                replace BK101:=X.mk (qj BK101.out nq)
                replace BK103:=X.mk (qj BK103.out nq)
                replace HB:=X.mk (U HB.out nq)
                replace hx105_0:(World.drewN w37 nq).cell? _=_:=hx105_0
                replace hx105_1:(World.drewN w37 nq).cell? _=_:=hx105_1
                replace hx105_2:(World.drewN w37 nq).cell? _=_:=hx105_2
                replace hx105_3:(World.drewN w37 nq).cell? _=_:=hx105_3
                replace hx105_4:(World.drewN w37 nq).cell? _=_:=hx105_4
                generalize World.drewN w37 nq=w38 at BK101 BK103 HB HR105_1 HR105_2 HR105_3 HR105_4 hx105_0 hx105_1 hx105_2 hx105_3 hx105_4 ⊢
                try go_wp2
                go_meet
                case rel=>exact⟨_,(decide ((((kw l0_0 x12_1).f4).length:Int) > 4)),(by first|rfl|(simp;done)|(simp[*];done)),H',⟨by have:=HK1.out;first|omega|exact Nat.le_refl _⟩,⟨by(with_reducible repeat(first|refine qj ?_ _|refine qk ?_|refine qz ?_ _));exact BK101.out⟩,⟨by(with_reducible repeat(first|refine qj ?_ _|refine qk ?_|refine qz ?_ _));exact BK103.out⟩,⟨by repeat(first|(with_reducible first|exact HB.out|apply O|apply U|apply L|refine qq ?_ GE101.out|refine qq ?_ GE103.out)|exact HB.out)⟩⟩
               ·replace c36:=jq9.mpr c36
                subst c36
                have H1:(qvz.j1 k1 l0_0 (l0_0.length:Int) x12_1 true l0_0 l0_1 a0_2 a0_3 ((kw l0_0 x12_1).f0) ((kw l0_0 x12_1).f1) ((kw l0_0 x12_1).f2) ((kw l0_0 x12_1).f3) ((kw l0_0 x12_1).f4))=some r:=by rw[if_neg (show ¬ (false=true) by decide)] at H;exact H
                clear H
                have H:=H1
                clear H1
                have H':=X.mk H
                clear H
                try go_wp2
                obtain⟨w39,e_⟩:∃ v_,v_=(((((w8.setCell ⟨gb103,0,none⟩ (.string ((kw l0_0 x12_1).f0))).setCell ⟨gb103,1,none⟩ (.slice A102_1 ((kw l0_0 x12_1).f1).length c102_1)).setCell ⟨gb103,2,none⟩ (.slice A102_2 ((kw l0_0 x12_1).f2).length c102_2)).setCell ⟨gb103,3,none⟩ (.slice A102_3 ((kw l0_0 x12_1).f3).length c102_3)).setCell ⟨gb103,4,none⟩ (.slice A102_4 ((kw l0_0 x12_1).f4).length c102_4)):=⟨_,rfl⟩
                have n0_:X (w39.heap[gb101]? = some (.cells #[.slice (some ad102) l0_0.length c0_0,.slice A0_1 l0_1.length c0_1,.int .i64 a0_2,.int .i64 a0_3] 45 (0,0))):=⟨by rewrite[e_];exact far5 BK101.out NB101_103.out⟩
                have n1_:X (w39.heap[gb103]? = some (.cells #[.string ((kw l0_0 x12_1).f0),.slice A102_1 ((kw l0_0 x12_1).f1).length c102_1,.slice A102_2 ((kw l0_0 x12_1).f2).length c102_2,.slice A102_3 ((kw l0_0 x12_1).f3).length c102_3,.slice A102_4 ((kw l0_0 x12_1).f4).length c102_4] 77 (0,0))):=⟨by rewrite[e_];exact put5 BK103.out⟩
                have n2_:X (Below w.heap.size w w39):=⟨by rewrite[e_];repeat(first|(with_reducible first|exact HB.out|apply O|apply U|apply L|refine qq ?_ GE101.out|refine qq ?_ GE103.out)|exact HB.out)⟩
                (try clear BK101)
                (try clear BK103)
                (try clear HB)
                rewrite[←e_]
                clear e_
                have BK101:=n0_
                have BK103:=n1_
                have HB:=n2_
                clear n0_ n1_ n2_
                have p105 : 0≤((ji14):Int):=of_decide_eq_true (by assumption)
                have q105:(ji14) < (l0_0.length:Int):=of_decide_eq_true (by assumption)
                obtain⟨ad105,A105_1,c105_1,A105_2,c105_2,A105_3,c105_3,A105_4,c105_4,e105,hx105_0,hx105_1,hx105_2,hx105_3,hx105_4,hl105_1,hi105_1,hl105_2,hi105_2,hl105_3,hi105_3,hl105_4,hi105_4⟩:=at_T77 HR0_0.out (ji14) p105 q105
                have hw105_4:=hx105_4
                have hw105_3:=hx105_3
                have hw105_2:=hx105_2
                have hw105_1:=hx105_1
                have hw105_0:=hx105_0
                obtain rfl:ad102=ad105:=(by injection e105)
                replace hx105_0:=(HB.out.cell (World.block_lt_of_cell? w _ hx105_0)).trans hx105_0
                replace hx105_1:=(HB.out.cell (World.block_lt_of_cell? w _ hx105_1)).trans hx105_1
                replace hx105_2:=(HB.out.cell (World.block_lt_of_cell? w _ hx105_2)).trans hx105_2
                replace hx105_3:=(HB.out.cell (World.block_lt_of_cell? w _ hx105_3)).trans hx105_3
                replace hx105_4:=(HB.out.cell (World.block_lt_of_cell? w _ hx105_4)).trans hx105_4
                have HR105_1:=X.mk hi105_1
                have HC105_1:=X.mk hl105_1
                clear hi105_1 hl105_1
                have HR105_2:=X.mk hi105_2
                have HC105_2:=X.mk hl105_2
                clear hi105_2 hl105_2
                have HR105_3:=X.mk hi105_3
                have HC105_3:=X.mk hl105_3
                clear hi105_3 hl105_3
                have HR105_4:=X.mk hi105_4
                have HC105_4:=X.mk hl105_4
                clear hi105_4 hl105_4
                replace p105:=eq_true p105
                replace q105:=eq_true q105
                have hS_:=(show(fun w'=>w'.cell? ⟨gb103,0,none⟩ = some (.string ((kw l0_0 x12_1).f0))∧w'.cell? ⟨gb103,1,none⟩ = some (.slice A102_1 ((kw l0_0 x12_1).f1).length c102_1)∧w'.cell? ⟨gb103,2,none⟩ = some (.slice A102_2 ((kw l0_0 x12_1).f2).length c102_2)∧w'.cell? ⟨gb103,3,none⟩ = some (.slice A102_3 ((kw l0_0 x12_1).f3).length c102_3)∧w'.cell? ⟨gb103,4,none⟩ = some (.slice A102_4 ((kw l0_0 x12_1).f4).length c102_4)∧w'.cell? ⟨gb101,0,none⟩ = some (.slice (some ad102) l0_0.length c0_0)∧w'.cell? ⟨gb101,1,none⟩ = some (.slice A0_1 l0_1.length c0_1)∧w'.cell? ⟨gb101,2,none⟩ = some (.int .i64 a0_2)∧w'.cell? ⟨gb101,3,none⟩ = some (.int .i64 a0_3)∧w'.cell? (ad102.add (((ji14)).toNat * 5))=some (.string ((kw l0_0 (ji14)).f0))∧w'.cell? ⟨(ad102.add (((ji14)).toNat * 5)).block,(ad102.add (((ji14)).toNat * 5)).off + 1,none⟩ = some (.slice A105_1 ((kw l0_0 (ji14)).f1).length c105_1)∧w'.cell? ⟨(ad102.add (((ji14)).toNat * 5)).block,(ad102.add (((ji14)).toNat * 5)).off + 2,none⟩ = some (.slice A105_2 ((kw l0_0 (ji14)).f2).length c105_2)∧w'.cell? ⟨(ad102.add (((ji14)).toNat * 5)).block,(ad102.add (((ji14)).toNat * 5)).off + 3,none⟩ = some (.slice A105_3 ((kw l0_0 (ji14)).f3).length c105_3)∧w'.cell? ⟨(ad102.add (((ji14)).toNat * 5)).block,(ad102.add (((ji14)).toNat * 5)).off + 4,none⟩ = some (.slice A105_4 ((kw l0_0 (ji14)).f4).length c105_4)) (w39) from⟨(I BK103.out 0).trans rfl,(I BK103.out 1).trans rfl,(I BK103.out 2).trans rfl,(I BK103.out 3).trans rfl,(I BK103.out 4).trans rfl,(I BK101.out 0).trans rfl,(I BK101.out 1).trans rfl,(I BK101.out 2).trans rfl,(I BK101.out 3).trans rfl,((HB.out.cell (World.block_lt_of_cell? w _ hw105_0)).trans hw105_0),((HB.out.cell (World.block_lt_of_cell? w _ hw105_1)).trans hw105_1),((HB.out.cell (World.block_lt_of_cell? w _ hw105_2)).trans hw105_2),((HB.out.cell (World.block_lt_of_cell? w _ hw105_3)).trans hw105_3),((HB.out.cell (World.block_lt_of_cell? w _ hw105_4)).trans hw105_4)⟩)
                obtain⟨hS0_,hS1_,hS2_,hS3_,hS4_,hS5_,hS6_,hS7_,hS8_,hS9_,hS10_,hS11_,hS12_,hS13_⟩:=hS_
                go_quiet ((first|(go_at_call 37;exact Calls.quiet_of ((qxq.calls k1 ((kw l0_0 x12_1).f0) true _ A11.out).mono fun _ _ h=>⟨h.1,h.2.out⟩))|(go_at_call 38;exact Calls.quiet_of ((qvw.calls k1 ((kw l0_0 (ji14)).f0) ((kw l0_0 x12_1).f0) t106 _ A17.out).mono fun _ _ h=>⟨h.1,h.2.out⟩))|(go_at_call 44;exact Calls.quiet_of ((qvk.calls k1 _ _ ((kw l0_0 x12_1).f3) false _ (by repeat(first|exact(Kd.C_below HR102_3.out (by solve_by_elim (maxDepth:=20) only[HB.out,O,U,L,qq,GE101.out,qq,GE103.out]))|(with_reducible refine Kd.C_alloc ?_ _)|(with_reducible refine Kd.C_drewN ?_ _)|(with_reducible refine Kd.C_drew ?_))) (by exact HC102_3.out) A35.out).mono fun _ _ h=>⟨h.1,h.2.out⟩))))
                clear hS0_ hS1_ hS2_ hS3_ hS4_ hS5_ hS6_ hS7_ hS8_ hS9_ hS10_ hS11_ hS12_ hS13_
                replace BK101:=X.mk (qj BK101.out nq)
                replace BK103:=X.mk (qj BK103.out nq)
                replace HB:=X.mk (U HB.out nq)
                replace hx105_0:(World.drewN w39 nq).cell? _=_:=hx105_0
                replace hx105_1:(World.drewN w39 nq).cell? _=_:=hx105_1
                replace hx105_2:(World.drewN w39 nq).cell? _=_:=hx105_2
                replace hx105_3:(World.drewN w39 nq).cell? _=_:=hx105_3
                replace hx105_4:(World.drewN w39 nq).cell? _=_:=hx105_4
                generalize World.drewN w39 nq=w40 at BK101 BK103 HB HR105_1 HR105_2 HR105_3 HR105_4 hx105_0 hx105_1 hx105_2 hx105_3 hx105_4 ⊢
                try go_wp2
                go_meet
                case rel=>exact⟨_,(true),(by first|rfl|(simp;done)|(simp[*];done)),H',⟨by have:=HK1.out;first|omega|exact Nat.le_refl _⟩,⟨by(with_reducible repeat(first|refine qj ?_ _|refine qk ?_|refine qz ?_ _));exact BK101.out⟩,⟨by(with_reducible repeat(first|refine qj ?_ _|refine qk ?_|refine qz ?_ _));exact BK103.out⟩,⟨by repeat(first|(with_reducible first|exact HB.out|apply O|apply U|apply L|refine qq ?_ GE101.out|refine qq ?_ GE103.out)|exact HB.out)⟩⟩
             ·rw[if_neg c31] at H
              have c31b0:((((kw l0_0 x12_1).f1).length:Int) == 16)=false:=beq_eq_false_iff_ne.mpr c31
              have c31b1:((((kw l0_0 x12_1).f1).length:Int) != 16)=true:=bne_iff_ne.mpr c31
              have H':=X.mk H
              clear H
              try go_wp2
              obtain⟨w41,e_⟩:∃ v_,v_=(((((w8.setCell ⟨gb103,0,none⟩ (.string ((kw l0_0 x12_1).f0))).setCell ⟨gb103,1,none⟩ (.slice A102_1 ((kw l0_0 x12_1).f1).length c102_1)).setCell ⟨gb103,2,none⟩ (.slice A102_2 ((kw l0_0 x12_1).f2).length c102_2)).setCell ⟨gb103,3,none⟩ (.slice A102_3 ((kw l0_0 x12_1).f3).length c102_3)).setCell ⟨gb103,4,none⟩ (.slice A102_4 ((kw l0_0 x12_1).f4).length c102_4)):=⟨_,rfl⟩
              have n0_:X (w41.heap[gb101]? = some (.cells #[.slice (some ad102) l0_0.length c0_0,.slice A0_1 l0_1.length c0_1,.int .i64 a0_2,.int .i64 a0_3] 45 (0,0))):=⟨by rewrite[e_];exact far5 BK101.out NB101_103.out⟩
              have n1_:X (w41.heap[gb103]? = some (.cells #[.string ((kw l0_0 x12_1).f0),.slice A102_1 ((kw l0_0 x12_1).f1).length c102_1,.slice A102_2 ((kw l0_0 x12_1).f2).length c102_2,.slice A102_3 ((kw l0_0 x12_1).f3).length c102_3,.slice A102_4 ((kw l0_0 x12_1).f4).length c102_4] 77 (0,0))):=⟨by rewrite[e_];exact put5 BK103.out⟩
              have n2_:X (Below w.heap.size w w41):=⟨by rewrite[e_];repeat(first|(with_reducible first|exact HB.out|apply O|apply U|apply L|refine qq ?_ GE101.out|refine qq ?_ GE103.out)|exact HB.out)⟩
              (try clear BK101)
              (try clear BK103)
              (try clear HB)
              rewrite[←e_]
              clear e_
              have BK101:=n0_
              have BK103:=n1_
              have HB:=n2_
              clear n0_ n1_ n2_
              have p105 : 0≤((ji14):Int):=of_decide_eq_true (by assumption)
              have q105:(ji14) < (l0_0.length:Int):=of_decide_eq_true (by assumption)
              obtain⟨ad105,A105_1,c105_1,A105_2,c105_2,A105_3,c105_3,A105_4,c105_4,e105,hx105_0,hx105_1,hx105_2,hx105_3,hx105_4,hl105_1,hi105_1,hl105_2,hi105_2,hl105_3,hi105_3,hl105_4,hi105_4⟩:=at_T77 HR0_0.out (ji14) p105 q105
              have hw105_4:=hx105_4
              have hw105_3:=hx105_3
              have hw105_2:=hx105_2
              have hw105_1:=hx105_1
              have hw105_0:=hx105_0
              obtain rfl:ad102=ad105:=(by injection e105)
              replace hx105_0:=(HB.out.cell (World.block_lt_of_cell? w _ hx105_0)).trans hx105_0
              replace hx105_1:=(HB.out.cell (World.block_lt_of_cell? w _ hx105_1)).trans hx105_1
              replace hx105_2:=(HB.out.cell (World.block_lt_of_cell? w _ hx105_2)).trans hx105_2
              replace hx105_3:=(HB.out.cell (World.block_lt_of_cell? w _ hx105_3)).trans hx105_3
              replace hx105_4:=(HB.out.cell (World.block_lt_of_cell? w _ hx105_4)).trans hx105_4
              have HR105_1:=X.mk hi105_1
              have HC105_1:=X.mk hl105_1
              clear hi105_1 hl105_1
              have HR105_2:=X.mk hi105_2
              have HC105_2:=X.mk hl105_2
              clear hi105_2 hl105_2
              have HR105_3:=X.mk hi105_3
              have HC105_3:=X.mk hl105_3
              clear hi105_3 hl105_3
              have HR105_4:=X.mk hi105_4
              have HC105_4:=X.mk hl105_4
              clear hi105_4 hl105_4
              replace p105:=eq_true p105
              replace q105:=eq_true q105
              have hS_:=(show(fun w'=>w'.cell? ⟨gb103,0,none⟩ = some (.string ((kw l0_0 x12_1).f0))∧w'.cell? ⟨gb103,1,none⟩ = some (.slice A102_1 ((kw l0_0 x12_1).f1).length c102_1)∧w'.cell? ⟨gb103,2,none⟩ = some (.slice A102_2 ((kw l0_0 x12_1).f2).length c102_2)∧w'.cell? ⟨gb103,3,none⟩ = some (.slice A102_3 ((kw l0_0 x12_1).f3).length c102_3)∧w'.cell? ⟨gb103,4,none⟩ = some (.slice A102_4 ((kw l0_0 x12_1).f4).length c102_4)∧w'.cell? ⟨gb101,0,none⟩ = some (.slice (some ad102) l0_0.length c0_0)∧w'.cell? ⟨gb101,1,none⟩ = some (.slice A0_1 l0_1.length c0_1)∧w'.cell? ⟨gb101,2,none⟩ = some (.int .i64 a0_2)∧w'.cell? ⟨gb101,3,none⟩ = some (.int .i64 a0_3)∧w'.cell? (ad102.add (((ji14)).toNat * 5))=some (.string ((kw l0_0 (ji14)).f0))∧w'.cell? ⟨(ad102.add (((ji14)).toNat * 5)).block,(ad102.add (((ji14)).toNat * 5)).off + 1,none⟩ = some (.slice A105_1 ((kw l0_0 (ji14)).f1).length c105_1)∧w'.cell? ⟨(ad102.add (((ji14)).toNat * 5)).block,(ad102.add (((ji14)).toNat * 5)).off + 2,none⟩ = some (.slice A105_2 ((kw l0_0 (ji14)).f2).length c105_2)∧w'.cell? ⟨(ad102.add (((ji14)).toNat * 5)).block,(ad102.add (((ji14)).toNat * 5)).off + 3,none⟩ = some (.slice A105_3 ((kw l0_0 (ji14)).f3).length c105_3)∧w'.cell? ⟨(ad102.add (((ji14)).toNat * 5)).block,(ad102.add (((ji14)).toNat * 5)).off + 4,none⟩ = some (.slice A105_4 ((kw l0_0 (ji14)).f4).length c105_4)) (w41) from⟨(I BK103.out 0).trans rfl,(I BK103.out 1).trans rfl,(I BK103.out 2).trans rfl,(I BK103.out 3).trans rfl,(I BK103.out 4).trans rfl,(I BK101.out 0).trans rfl,(I BK101.out 1).trans rfl,(I BK101.out 2).trans rfl,(I BK101.out 3).trans rfl,((HB.out.cell (World.block_lt_of_cell? w _ hw105_0)).trans hw105_0),((HB.out.cell (World.block_lt_of_cell? w _ hw105_1)).trans hw105_1),((HB.out.cell (World.block_lt_of_cell? w _ hw105_2)).trans hw105_2),((HB.out.cell (World.block_lt_of_cell? w _ hw105_3)).trans hw105_3),((HB.out.cell (World.block_lt_of_cell? w _ hw105_4)).trans hw105_4)⟩)
              obtain⟨hS0_,hS1_,hS2_,hS3_,hS4_,hS5_,hS6_,hS7_,hS8_,hS9_,hS10_,hS11_,hS12_,hS13_⟩:=hS_
              go_quiet ((first|(go_at_call 37;exact Calls.quiet_of ((qxq.calls k1 ((kw l0_0 x12_1).f0) true _ A11.out).mono fun _ _ h=>⟨h.1,h.2.out⟩))|(go_at_call 38;exact Calls.quiet_of ((qvw.calls k1 ((kw l0_0 (ji14)).f0) ((kw l0_0 x12_1).f0) t106 _ A17.out).mono fun _ _ h=>⟨h.1,h.2.out⟩))))
              clear hS0_ hS1_ hS2_ hS3_ hS4_ hS5_ hS6_ hS7_ hS8_ hS9_ hS10_ hS11_ hS12_ hS13_
              replace BK101:=X.mk (qj BK101.out nq)
              replace BK103:=X.mk (qj BK103.out nq)
              replace HB:=X.mk (U HB.out nq)
              replace hx105_0:(World.drewN w41 nq).cell? _=_:=hx105_0
              replace hx105_1:(World.drewN w41 nq).cell? _=_:=hx105_1
              replace hx105_2:(World.drewN w41 nq).cell? _=_:=hx105_2
              replace hx105_3:(World.drewN w41 nq).cell? _=_:=hx105_3
              replace hx105_4:(World.drewN w41 nq).cell? _=_:=hx105_4
              generalize World.drewN w41 nq=w42 at BK101 BK103 HB HR105_1 HR105_2 HR105_3 HR105_4 hx105_0 hx105_1 hx105_2 hx105_3 hx105_4 ⊢
              try go_wp2
              go_meet
              case rel=>exact⟨_,(true),(by first|rfl|(simp;done)|(simp[*];done)),H',⟨by have:=HK1.out;first|omega|exact Nat.le_refl _⟩,⟨by(with_reducible repeat(first|refine qj ?_ _|refine qk ?_|refine qz ?_ _));exact BK101.out⟩,⟨by(with_reducible repeat(first|refine qj ?_ _|refine qk ?_|refine qz ?_ _));exact BK103.out⟩,⟨by repeat(first|(with_reducible first|exact HB.out|apply O|apply U|apply L|refine qq ?_ GE101.out|refine qq ?_ GE103.out)|exact HB.out)⟩⟩
          ·rw[if_neg c16] at H
           exact absurd H (by simp)
         ·rw[if_neg c15] at H
          exact absurd H (by simp)
        ·rw[if_neg c13] at H
         have c13b0:decide (0 < x12_1)=false:=decide_eq_false c13
         clear c13
         (first|rw[c13b0]|(simp only[i64_w,i32_w];rw[c13b0])|skip)
         by_cases c43:(((kw l0_0 x12_1).f1).length:Int)=0
         ·rw[if_pos c43] at H
          have c43b0:((((kw l0_0 x12_1).f1).length:Int) == 0)=true:=beq_iff_eq.mpr c43
          have c43b1:((((kw l0_0 x12_1).f1).length:Int) != 0)=false:=bne_eq_false_iff_eq.mpr c43
          clear c43
          by_cases c44:(((kw l0_0 x12_1).f2).length:Int) > 5
          ·rw[if_pos c44] at H
           have c44b0:decide (5 < (((kw l0_0 x12_1).f2).length:Int))=true:=decide_eq_true c44
           have c44b1:decide (5 < ((kw l0_0 x12_1).f2).length)=true:=decide_eq_true (by omega)
           clear c44
           have H':=X.mk H
           clear H
           try go_wp2
           obtain⟨w45,e_⟩:∃ v_,v_=(((((w8.setCell ⟨gb103,0,none⟩ (.string ((kw l0_0 x12_1).f0))).setCell ⟨gb103,1,none⟩ (.slice A102_1 ((kw l0_0 x12_1).f1).length c102_1)).setCell ⟨gb103,2,none⟩ (.slice A102_2 ((kw l0_0 x12_1).f2).length c102_2)).setCell ⟨gb103,3,none⟩ (.slice A102_3 ((kw l0_0 x12_1).f3).length c102_3)).setCell ⟨gb103,4,none⟩ (.slice A102_4 ((kw l0_0 x12_1).f4).length c102_4)):=⟨_,rfl⟩
           have n0_:X (w45.heap[gb101]? = some (.cells #[.slice (some ad102) l0_0.length c0_0,.slice A0_1 l0_1.length c0_1,.int .i64 a0_2,.int .i64 a0_3] 45 (0,0))):=⟨by rewrite[e_];exact far5 BK101.out NB101_103.out⟩
           have n1_:X (w45.heap[gb103]? = some (.cells #[.string ((kw l0_0 x12_1).f0),.slice A102_1 ((kw l0_0 x12_1).f1).length c102_1,.slice A102_2 ((kw l0_0 x12_1).f2).length c102_2,.slice A102_3 ((kw l0_0 x12_1).f3).length c102_3,.slice A102_4 ((kw l0_0 x12_1).f4).length c102_4] 77 (0,0))):=⟨by rewrite[e_];exact put5 BK103.out⟩
           have n2_:X (Below w.heap.size w w45):=⟨by rewrite[e_];repeat(first|(with_reducible first|exact HB.out|apply O|apply U|apply L|refine qq ?_ GE101.out|refine qq ?_ GE103.out)|exact HB.out)⟩
           (try clear BK101)
           (try clear BK103)
           (try clear HB)
           rewrite[←e_]
           clear e_
           have BK101:=n0_
           have BK103:=n1_
           have HB:=n2_
           clear n0_ n1_ n2_
           have hS_:=(show(fun w'=>w'.cell? ⟨gb103,0,none⟩ = some (.string ((kw l0_0 x12_1).f0))∧w'.cell? ⟨gb103,1,none⟩ = some (.slice A102_1 ((kw l0_0 x12_1).f1).length c102_1)∧w'.cell? ⟨gb103,2,none⟩ = some (.slice A102_2 ((kw l0_0 x12_1).f2).length c102_2)∧w'.cell? ⟨gb103,3,none⟩ = some (.slice A102_3 ((kw l0_0 x12_1).f3).length c102_3)∧w'.cell? ⟨gb103,4,none⟩ = some (.slice A102_4 ((kw l0_0 x12_1).f4).length c102_4)) (w45) from⟨(I BK103.out 0).trans rfl,(I BK103.out 1).trans rfl,(I BK103.out 2).trans rfl,(I BK103.out 3).trans rfl,(I BK103.out 4).trans rfl⟩)
           obtain⟨hS0_,hS1_,hS2_,hS3_,hS4_⟩:=hS_
           go_quiet ((first|(go_at_call 37;exact Calls.quiet_of ((qxq.calls k1 ((kw l0_0 x12_1).f0) true _ A11.out).mono fun _ _ h=>⟨h.1,h.2.out⟩))))
           clear hS0_ hS1_ hS2_ hS3_ hS4_
           replace BK101:=X.mk (qj BK101.out nq)
           replace BK103:=X.mk (qj BK103.out nq)
           replace HB:=X.mk (U HB.out nq)
           generalize World.drewN w45 nq=w46 at BK101 BK103 HB ⊢
           try go_wp2
           go_meet
           case rel=>exact⟨_,(true),(by first|rfl|(simp;done)|(simp[*];done)),H',⟨by have:=HK1.out;first|omega|exact Nat.le_refl _⟩,⟨by(with_reducible repeat(first|refine qj ?_ _|refine qk ?_|refine qz ?_ _));exact BK101.out⟩,⟨by(with_reducible repeat(first|refine qj ?_ _|refine qk ?_|refine qz ?_ _));exact BK103.out⟩,⟨by repeat(first|(with_reducible first|exact HB.out|apply O|apply U|apply L|refine qq ?_ GE101.out|refine qq ?_ GE103.out)|exact HB.out)⟩⟩
          ·rw[if_neg c44] at H
           have c44b0:decide (5 < (((kw l0_0 x12_1).f2).length:Int))=false:=decide_eq_false c44
           have c44b1:decide (5 < ((kw l0_0 x12_1).f2).length)=false:=decide_eq_false (by omega)
           clear c44
           replace H:=jq8.mp H
           obtain⟨t109,A470,H⟩:=H
           try dsimp only at H
           have A47:=X.mk A470
           clear A470
           by_cases c48:t109=true
           ·subst c48
            have H1:(qvz.j1 k1 l0_0 (l0_0.length:Int) x12_1 (decide ((((kw l0_0 x12_1).f4).length:Int) > 4)) l0_0 l0_1 a0_2 a0_3 ((kw l0_0 x12_1).f0) ((kw l0_0 x12_1).f1) ((kw l0_0 x12_1).f2) ((kw l0_0 x12_1).f3) ((kw l0_0 x12_1).f4))=some r:=by rw[if_pos rfl] at H;exact H
            clear H
            have H:=H1
            clear H1
            have H':=X.mk H
            clear H
            try go_wp2
            obtain⟨w49,e_⟩:∃ v_,v_=(((((w8.setCell ⟨gb103,0,none⟩ (.string ((kw l0_0 x12_1).f0))).setCell ⟨gb103,1,none⟩ (.slice A102_1 ((kw l0_0 x12_1).f1).length c102_1)).setCell ⟨gb103,2,none⟩ (.slice A102_2 ((kw l0_0 x12_1).f2).length c102_2)).setCell ⟨gb103,3,none⟩ (.slice A102_3 ((kw l0_0 x12_1).f3).length c102_3)).setCell ⟨gb103,4,none⟩ (.slice A102_4 ((kw l0_0 x12_1).f4).length c102_4)):=⟨_,rfl⟩
            have n0_:X (w49.heap[gb101]? = some (.cells #[.slice (some ad102) l0_0.length c0_0,.slice A0_1 l0_1.length c0_1,.int .i64 a0_2,.int .i64 a0_3] 45 (0,0))):=⟨by rewrite[e_];exact far5 BK101.out NB101_103.out⟩
            have n1_:X (w49.heap[gb103]? = some (.cells #[.string ((kw l0_0 x12_1).f0),.slice A102_1 ((kw l0_0 x12_1).f1).length c102_1,.slice A102_2 ((kw l0_0 x12_1).f2).length c102_2,.slice A102_3 ((kw l0_0 x12_1).f3).length c102_3,.slice A102_4 ((kw l0_0 x12_1).f4).length c102_4] 77 (0,0))):=⟨by rewrite[e_];exact put5 BK103.out⟩
            have n2_:X (Below w.heap.size w w49):=⟨by rewrite[e_];repeat(first|(with_reducible first|exact HB.out|apply O|apply U|apply L|refine qq ?_ GE101.out|refine qq ?_ GE103.out)|exact HB.out)⟩
            (try clear BK101)
            (try clear BK103)
            (try clear HB)
            rewrite[←e_]
            clear e_
            have BK101:=n0_
            have BK103:=n1_
            have HB:=n2_
            clear n0_ n1_ n2_
            have hS_:=(show(fun w'=>w'.cell? ⟨gb103,0,none⟩ = some (.string ((kw l0_0 x12_1).f0))∧w'.cell? ⟨gb103,1,none⟩ = some (.slice A102_1 ((kw l0_0 x12_1).f1).length c102_1)∧w'.cell? ⟨gb103,2,none⟩ = some (.slice A102_2 ((kw l0_0 x12_1).f2).length c102_2)∧w'.cell? ⟨gb103,3,none⟩ = some (.slice A102_3 ((kw l0_0 x12_1).f3).length c102_3)∧w'.cell? ⟨gb103,4,none⟩ = some (.slice A102_4 ((kw l0_0 x12_1).f4).length c102_4)) (w49) from⟨(I BK103.out 0).trans rfl,(I BK103.out 1).trans rfl,(I BK103.out 2).trans rfl,(I BK103.out 3).trans rfl,(I BK103.out 4).trans rfl⟩)
            obtain⟨hS0_,hS1_,hS2_,hS3_,hS4_⟩:=hS_
            go_quiet ((first|(go_at_call 37;exact Calls.quiet_of ((qxq.calls k1 ((kw l0_0 x12_1).f0) true _ A11.out).mono fun _ _ h=>⟨h.1,h.2.out⟩))|(go_at_call 44;exact Calls.quiet_of ((qvk.calls k1 _ _ ((kw l0_0 x12_1).f3) true _ (by repeat(first|exact(Kd.C_below HR102_3.out (by solve_by_elim (maxDepth:=20) only[HB.out,O,U,L,qq,GE101.out,qq,GE103.out]))|(with_reducible refine Kd.C_alloc ?_ _)|(with_reducible refine Kd.C_drewN ?_ _)|(with_reducible refine Kd.C_drew ?_))) (by exact HC102_3.out) A47.out).mono fun _ _ h=>⟨h.1,h.2.out⟩))))
            clear hS0_ hS1_ hS2_ hS3_ hS4_
            replace BK101:=X.mk (qj BK101.out nq)
            replace BK103:=X.mk (qj BK103.out nq)
            replace HB:=X.mk (U HB.out nq)
            generalize World.drewN w49 nq=w50 at BK101 BK103 HB ⊢
            try go_wp2
            go_meet
            case rel=>exact⟨_,(decide ((((kw l0_0 x12_1).f4).length:Int) > 4)),(by first|rfl|(simp;done)|(simp[*];done)),H',⟨by have:=HK1.out;first|omega|exact Nat.le_refl _⟩,⟨by(with_reducible repeat(first|refine qj ?_ _|refine qk ?_|refine qz ?_ _));exact BK101.out⟩,⟨by(with_reducible repeat(first|refine qj ?_ _|refine qk ?_|refine qz ?_ _));exact BK103.out⟩,⟨by repeat(first|(with_reducible first|exact HB.out|apply O|apply U|apply L|refine qq ?_ GE101.out|refine qq ?_ GE103.out)|exact HB.out)⟩⟩
           ·replace c48:=jq9.mpr c48
            subst c48
            have H1:(qvz.j1 k1 l0_0 (l0_0.length:Int) x12_1 true l0_0 l0_1 a0_2 a0_3 ((kw l0_0 x12_1).f0) ((kw l0_0 x12_1).f1) ((kw l0_0 x12_1).f2) ((kw l0_0 x12_1).f3) ((kw l0_0 x12_1).f4))=some r:=by rw[if_neg (show ¬ (false=true) by decide)] at H;exact H
            clear H
            have H:=H1
            clear H1
            have H':=X.mk H
            clear H
            try go_wp2
            obtain⟨w51,e_⟩:∃ v_,v_=(((((w8.setCell ⟨gb103,0,none⟩ (.string ((kw l0_0 x12_1).f0))).setCell ⟨gb103,1,none⟩ (.slice A102_1 ((kw l0_0 x12_1).f1).length c102_1)).setCell ⟨gb103,2,none⟩ (.slice A102_2 ((kw l0_0 x12_1).f2).length c102_2)).setCell ⟨gb103,3,none⟩ (.slice A102_3 ((kw l0_0 x12_1).f3).length c102_3)).setCell ⟨gb103,4,none⟩ (.slice A102_4 ((kw l0_0 x12_1).f4).length c102_4)):=⟨_,rfl⟩
            have n0_:X (w51.heap[gb101]? = some (.cells #[.slice (some ad102) l0_0.length c0_0,.slice A0_1 l0_1.length c0_1,.int .i64 a0_2,.int .i64 a0_3] 45 (0,0))):=⟨by rewrite[e_];exact far5 BK101.out NB101_103.out⟩
            have n1_:X (w51.heap[gb103]? = some (.cells #[.string ((kw l0_0 x12_1).f0),.slice A102_1 ((kw l0_0 x12_1).f1).length c102_1,.slice A102_2 ((kw l0_0 x12_1).f2).length c102_2,.slice A102_3 ((kw l0_0 x12_1).f3).length c102_3,.slice A102_4 ((kw l0_0 x12_1).f4).length c102_4] 77 (0,0))):=⟨by rewrite[e_];exact put5 BK103.out⟩
            have n2_:X (Below w.heap.size w w51):=⟨by rewrite[e_];repeat(first|(with_reducible first|exact HB.out|apply O|apply U|apply L|refine qq ?_ GE101.out|refine qq ?_ GE103.out)|exact HB.out)⟩
            (try clear BK101)
            (try clear BK103)
            (try clear HB)
            rewrite[←e_]
            clear e_
            have BK101:=n0_
            have BK103:=n1_
            have HB:=n2_
            clear n0_ n1_ n2_
            have hS_:=(show(fun w'=>w'.cell? ⟨gb103,0,none⟩ = some (.string ((kw l0_0 x12_1).f0))∧w'.cell? ⟨gb103,1,none⟩ = some (.slice A102_1 ((kw l0_0 x12_1).f1).length c102_1)∧w'.cell? ⟨gb103,2,none⟩ = some (.slice A102_2 ((kw l0_0 x12_1).f2).length c102_2)∧w'.cell? ⟨gb103,3,none⟩ = some (.slice A102_3 ((kw l0_0 x12_1).f3).length c102_3)∧w'.cell? ⟨gb103,4,none⟩ = some (.slice A102_4 ((kw l0_0 x12_1).f4).length c102_4)) (w51) from⟨(I BK103.out 0).trans rfl,(I BK103.out 1).trans rfl,(I BK103.out 2).trans rfl,(I BK103.out 3).trans rfl,(I BK103.out 4).trans rfl⟩)
            obtain⟨hS0_,hS1_,hS2_,hS3_,hS4_⟩:=hS_
            go_quiet ((first|(go_at_call 37;exact Calls.quiet_of ((qxq.calls k1 ((kw l0_0 x12_1).f0) true _ A11.out).mono fun _ _ h=>⟨h.1,h.2.out⟩))|(go_at_call 44;exact Calls.quiet_of ((qvk.calls k1 _ _ ((kw l0_0 x12_1).f3) false _ (by repeat(first|exact(Kd.C_below HR102_3.out (by solve_by_elim (maxDepth:=20) only[HB.out,O,U,L,qq,GE101.out,qq,GE103.out]))|(with_reducible refine Kd.C_alloc ?_ _)|(with_reducible refine Kd.C_drewN ?_ _)|(with_reducible refine Kd.C_drew ?_))) (by exact HC102_3.out) A47.out).mono fun _ _ h=>⟨h.1,h.2.out⟩))))
            clear hS0_ hS1_ hS2_ hS3_ hS4_
            replace BK101:=X.mk (qj BK101.out nq)
            replace BK103:=X.mk (qj BK103.out nq)
            replace HB:=X.mk (U HB.out nq)
            generalize World.drewN w51 nq=w52 at BK101 BK103 HB ⊢
            try go_wp2
            go_meet
            case rel=>exact⟨_,(true),(by first|rfl|(simp;done)|(simp[*];done)),H',⟨by have:=HK1.out;first|omega|exact Nat.le_refl _⟩,⟨by(with_reducible repeat(first|refine qj ?_ _|refine qk ?_|refine qz ?_ _));exact BK101.out⟩,⟨by(with_reducible repeat(first|refine qj ?_ _|refine qk ?_|refine qz ?_ _));exact BK103.out⟩,⟨by repeat(first|(with_reducible first|exact HB.out|apply O|apply U|apply L|refine qq ?_ GE101.out|refine qq ?_ GE103.out)|exact HB.out)⟩⟩
         ·rw[if_neg c43] at H
          have c43b0:((((kw l0_0 x12_1).f1).length:Int) == 0)=false:=beq_eq_false_iff_ne.mpr c43
          have c43b1:((((kw l0_0 x12_1).f1).length:Int) != 0)=true:=bne_iff_ne.mpr c43
          have c43b2:¬ (((kw l0_0 x12_1).f1)=[]):=fun h_=>c43 (by rw[h_];rfl)
          by_cases c53:(((kw l0_0 x12_1).f1).length:Int)=16
          ·rw[if_pos c53] at H
           have c53b0:((((kw l0_0 x12_1).f1).length:Int) == 16)=true:=beq_iff_eq.mpr c53
           have c53b1:((((kw l0_0 x12_1).f1).length:Int) != 16)=false:=bne_eq_false_iff_eq.mpr c53
           clear c53
           by_cases c54:(((kw l0_0 x12_1).f2).length:Int) > 5
           ·rw[if_pos c54] at H
            have c54b0:decide (5 < (((kw l0_0 x12_1).f2).length:Int))=true:=decide_eq_true c54
            have c54b1:decide (5 < ((kw l0_0 x12_1).f2).length)=true:=decide_eq_true (by omega)
            clear c54
            have H':=X.mk H
            clear H
            try go_wp2
            obtain⟨w55,e_⟩:∃ v_,v_=(((((w8.setCell ⟨gb103,0,none⟩ (.string ((kw l0_0 x12_1).f0))).setCell ⟨gb103,1,none⟩ (.slice A102_1 ((kw l0_0 x12_1).f1).length c102_1)).setCell ⟨gb103,2,none⟩ (.slice A102_2 ((kw l0_0 x12_1).f2).length c102_2)).setCell ⟨gb103,3,none⟩ (.slice A102_3 ((kw l0_0 x12_1).f3).length c102_3)).setCell ⟨gb103,4,none⟩ (.slice A102_4 ((kw l0_0 x12_1).f4).length c102_4)):=⟨_,rfl⟩
            have n0_:X (w55.heap[gb101]? = some (.cells #[.slice (some ad102) l0_0.length c0_0,.slice A0_1 l0_1.length c0_1,.int .i64 a0_2,.int .i64 a0_3] 45 (0,0))):=⟨by rewrite[e_];exact far5 BK101.out NB101_103.out⟩
            have n1_:X (w55.heap[gb103]? = some (.cells #[.string ((kw l0_0 x12_1).f0),.slice A102_1 ((kw l0_0 x12_1).f1).length c102_1,.slice A102_2 ((kw l0_0 x12_1).f2).length c102_2,.slice A102_3 ((kw l0_0 x12_1).f3).length c102_3,.slice A102_4 ((kw l0_0 x12_1).f4).length c102_4] 77 (0,0))):=⟨by rewrite[e_];exact put5 BK103.out⟩
            have n2_:X (Below w.heap.size w w55):=⟨by rewrite[e_];repeat(first|(with_reducible first|exact HB.out|apply O|apply U|apply L|refine qq ?_ GE101.out|refine qq ?_ GE103.out)|exact HB.out)⟩
            (try clear BK101)
            (try clear BK103)
            (try clear HB)
            rewrite[←e_]
            clear e_
            have BK101:=n0_
            have BK103:=n1_
            have HB:=n2_
            clear n0_ n1_ n2_
            have hS_:=(show(fun w'=>w'.cell? ⟨gb103,0,none⟩ = some (.string ((kw l0_0 x12_1).f0))∧w'.cell? ⟨gb103,1,none⟩ = some (.slice A102_1 ((kw l0_0 x12_1).f1).length c102_1)∧w'.cell? ⟨gb103,2,none⟩ = some (.slice A102_2 ((kw l0_0 x12_1).f2).length c102_2)∧w'.cell? ⟨gb103,3,none⟩ = some (.slice A102_3 ((kw l0_0 x12_1).f3).length c102_3)∧w'.cell? ⟨gb103,4,none⟩ = some (.slice A102_4 ((kw l0_0 x12_1).f4).length c102_4)) (w55) from⟨(I BK103.out 0).trans rfl,(I BK103.out 1).trans rfl,(I BK103.out 2).trans rfl,(I BK103.out 3).trans rfl,(I BK103.out 4).trans rfl⟩)
            obtain⟨hS0_,hS1_,hS2_,hS3_,hS4_⟩:=hS_
            go_quiet ((first|(go_at_call 37;exact Calls.quiet_of ((qxq.calls k1 ((kw l0_0 x12_1).f0) true _ A11.out).mono fun _ _ h=>⟨h.1,h.2.out⟩))))
            clear hS0_ hS1_ hS2_ hS3_ hS4_
            replace BK101:=X.mk (qj BK101.out nq)
            replace BK103:=X.mk (qj BK103.out nq)
            replace HB:=X.mk (U HB.out nq)
            generalize World.drewN w55 nq=w56 at BK101 BK103 HB ⊢
            try go_wp2
            go_meet
            case rel=>exact⟨_,(true),(by first|rfl|(simp;done)|(simp[*];done)),H',⟨by have:=HK1.out;first|omega|exact Nat.le_refl _⟩,⟨by(with_reducible repeat(first|refine qj ?_ _|refine qk ?_|refine qz ?_ _));exact BK101.out⟩,⟨by(with_reducible repeat(first|refine qj ?_ _|refine qk ?_|refine qz ?_ _));exact BK103.out⟩,⟨by repeat(first|(with_reducible first|exact HB.out|apply O|apply U|apply L|refine qq ?_ GE101.out|refine qq ?_ GE103.out)|exact HB.out)⟩⟩
           ·rw[if_neg c54] at H
            have c54b0:decide (5 < (((kw l0_0 x12_1).f2).length:Int))=false:=decide_eq_false c54
            have c54b1:decide (5 < ((kw l0_0 x12_1).f2).length)=false:=decide_eq_false (by omega)
            clear c54
            replace H:=jq8.mp H
            obtain⟨t110,A570,H⟩:=H
            try dsimp only at H
            have A57:=X.mk A570
            clear A570
            by_cases c58:t110=true
            ·subst c58
             have H1:(qvz.j1 k1 l0_0 (l0_0.length:Int) x12_1 (decide ((((kw l0_0 x12_1).f4).length:Int) > 4)) l0_0 l0_1 a0_2 a0_3 ((kw l0_0 x12_1).f0) ((kw l0_0 x12_1).f1) ((kw l0_0 x12_1).f2) ((kw l0_0 x12_1).f3) ((kw l0_0 x12_1).f4))=some r:=by rw[if_pos rfl] at H;exact H
             clear H
             have H:=H1
             clear H1
             have H':=X.mk H
             clear H
             try go_wp2
             obtain⟨w59,e_⟩:∃ v_,v_=(((((w8.setCell ⟨gb103,0,none⟩ (.string ((kw l0_0 x12_1).f0))).setCell ⟨gb103,1,none⟩ (.slice A102_1 ((kw l0_0 x12_1).f1).length c102_1)).setCell ⟨gb103,2,none⟩ (.slice A102_2 ((kw l0_0 x12_1).f2).length c102_2)).setCell ⟨gb103,3,none⟩ (.slice A102_3 ((kw l0_0 x12_1).f3).length c102_3)).setCell ⟨gb103,4,none⟩ (.slice A102_4 ((kw l0_0 x12_1).f4).length c102_4)):=⟨_,rfl⟩
             have n0_:X (w59.heap[gb101]? = some (.cells #[.slice (some ad102) l0_0.length c0_0,.slice A0_1 l0_1.length c0_1,.int .i64 a0_2,.int .i64 a0_3] 45 (0,0))):=⟨by rewrite[e_];exact far5 BK101.out NB101_103.out⟩
             have n1_:X (w59.heap[gb103]? = some (.cells #[.string ((kw l0_0 x12_1).f0),.slice A102_1 ((kw l0_0 x12_1).f1).length c102_1,.slice A102_2 ((kw l0_0 x12_1).f2).length c102_2,.slice A102_3 ((kw l0_0 x12_1).f3).length c102_3,.slice A102_4 ((kw l0_0 x12_1).f4).length c102_4] 77 (0,0))):=⟨by rewrite[e_];exact put5 BK103.out⟩
             have n2_:X (Below w.heap.size w w59):=⟨by rewrite[e_];repeat(first|(with_reducible first|exact HB.out|apply O|apply U|apply L|refine qq ?_ GE101.out|refine qq ?_ GE103.out)|exact HB.out)⟩
             (try clear BK101)
             (try clear BK103)
             (try clear HB)
             rewrite[←e_]
             clear e_
             have BK101:=n0_
             have BK103:=n1_
             have HB:=n2_
             clear n0_ n1_ n2_
             have hS_:=(show(fun w'=>w'.cell? ⟨gb103,0,none⟩ = some (.string ((kw l0_0 x12_1).f0))∧w'.cell? ⟨gb103,1,none⟩ = some (.slice A102_1 ((kw l0_0 x12_1).f1).length c102_1)∧w'.cell? ⟨gb103,2,none⟩ = some (.slice A102_2 ((kw l0_0 x12_1).f2).length c102_2)∧w'.cell? ⟨gb103,3,none⟩ = some (.slice A102_3 ((kw l0_0 x12_1).f3).length c102_3)∧w'.cell? ⟨gb103,4,none⟩ = some (.slice A102_4 ((kw l0_0 x12_1).f4).length c102_4)) (w59) from⟨(I BK103.out 0).trans rfl,(I BK103.out 1).trans rfl,(I BK103.out 2).trans rfl,(I BK103.out 3).trans rfl,(I BK103.out 4).trans rfl⟩)
             obtain⟨hS0_,hS1_,hS2_,hS3_,hS4_⟩:=hS_
             go_quiet ((first|(go_at_call 37;exact Calls.quiet_of ((qxq.calls k1 ((kw l0_0 x12_1).f0) true _ A11.out).mono fun _ _ h=>⟨h.1,h.2.out⟩))|(go_at_call 44;exact Calls.quiet_of ((qvk.calls k1 _ _ ((kw l0_0 x12_1).f3) true _ (by repeat(first|exact(Kd.C_below HR102_3.out (by solve_by_elim (maxDepth:=20) only[HB.out,O,U,L,qq,GE101.out,qq,GE103.out]))|(with_reducible refine Kd.C_alloc ?_ _)|(with_reducible refine Kd.C_drewN ?_ _)|(with_reducible refine Kd.C_drew ?_))) (by exact HC102_3.out) A57.out).mono fun _ _ h=>⟨h.1,h.2.out⟩))))
             clear hS0_ hS1_ hS2_ hS3_ hS4_
             replace BK101:=X.mk (qj BK101.out nq)
             replace BK103:=X.mk (qj BK103.out nq)
             replace HB:=X.mk (U HB.out nq)
             generalize World.drewN w59 nq=w60 at BK101 BK103 HB ⊢
             try go_wp2
             go_meet
             case rel=>exact⟨_,(decide ((((kw l0_0 x12_1).f4).length:Int) > 4)),(by first|rfl|(simp;done)|(simp[*];done)),H',⟨by have:=HK1.out;first|omega|exact Nat.le_refl _⟩,⟨by(with_reducible repeat(first|refine qj ?_ _|refine qk ?_|refine qz ?_ _));exact BK101.out⟩,⟨by(with_reducible repeat(first|refine qj ?_ _|refine qk ?_|refine qz ?_ _));exact BK103.out⟩,⟨by repeat(first|(with_reducible first|exact HB.out|apply O|apply U|apply L|refine qq ?_ GE101.out|refine qq ?_ GE103.out)|exact HB.out)⟩⟩
            ·replace c58:=jq9.mpr c58
             subst c58
             have H1:(qvz.j1 k1 l0_0 (l0_0.length:Int) x12_1 true l0_0 l0_1 a0_2 a0_3 ((kw l0_0 x12_1).f0) ((kw l0_0 x12_1).f1) ((kw l0_0 x12_1).f2) ((kw l0_0 x12_1).f3) ((kw l0_0 x12_1).f4))=some r:=by rw[if_neg (show ¬ (false=true) by decide)] at H;exact H
             clear H
             have H:=H1
             clear H1
             have H':=X.mk H
             clear H
             try go_wp2
             obtain⟨w61,e_⟩:∃ v_,v_=(((((w8.setCell ⟨gb103,0,none⟩ (.string ((kw l0_0 x12_1).f0))).setCell ⟨gb103,1,none⟩ (.slice A102_1 ((kw l0_0 x12_1).f1).length c102_1)).setCell ⟨gb103,2,none⟩ (.slice A102_2 ((kw l0_0 x12_1).f2).length c102_2)).setCell ⟨gb103,3,none⟩ (.slice A102_3 ((kw l0_0 x12_1).f3).length c102_3)).setCell ⟨gb103,4,none⟩ (.slice A102_4 ((kw l0_0 x12_1).f4).length c102_4)):=⟨_,rfl⟩
             have n0_:X (w61.heap[gb101]? = some (.cells #[.slice (some ad102) l0_0.length c0_0,.slice A0_1 l0_1.length c0_1,.int .i64 a0_2,.int .i64 a0_3] 45 (0,0))):=⟨by rewrite[e_];exact far5 BK101.out NB101_103.out⟩
             have n1_:X (w61.heap[gb103]? = some (.cells #[.string ((kw l0_0 x12_1).f0),.slice A102_1 ((kw l0_0 x12_1).f1).length c102_1,.slice A102_2 ((kw l0_0 x12_1).f2).length c102_2,.slice A102_3 ((kw l0_0 x12_1).f3).length c102_3,.slice A102_4 ((kw l0_0 x12_1).f4).length c102_4] 77 (0,0))):=⟨by rewrite[e_];exact put5 BK103.out⟩
             have n2_:X (Below w.heap.size w w61):=⟨by rewrite[e_];repeat(first|(with_reducible first|exact HB.out|apply O|apply U|apply L|refine qq ?_ GE101.out|refine qq ?_ GE103.out)|exact HB.out)⟩
             (try clear BK101)
             (try clear BK103)
             (try clear HB)
             rewrite[←e_]
             clear e_
             have BK101:=n0_
             have BK103:=n1_
             have HB:=n2_
             clear n0_ n1_ n2_
             have hS_:=(show(fun w'=>w'.cell? ⟨gb103,0,none⟩ = some (.string ((kw l0_0 x12_1).f0))∧w'.cell? ⟨gb103,1,none⟩ = some (.slice A102_1 ((kw l0_0 x12_1).f1).length c102_1)∧w'.cell? ⟨gb103,2,none⟩ = some (.slice A102_2 ((kw l0_0 x12_1).f2).length c102_2)∧w'.cell? ⟨gb103,3,none⟩ = some (.slice A102_3 ((kw l0_0 x12_1).f3).length c102_3)∧w'.cell? ⟨gb103,4,none⟩ = some (.slice A102_4 ((kw l0_0 x12_1).f4).length c102_4)) (w61) from⟨(I BK103.out 0).trans rfl,(I BK103.out 1).trans rfl,(I BK103.out 2).trans rfl,(I BK103.out 3).trans rfl,(I BK103.out 4).trans rfl⟩)
             obtain⟨hS0_,hS1_,hS2_,hS3_,hS4_⟩:=hS_
             go_quiet ((first|(go_at_call 37;exact Calls.quiet_of ((qxq.calls k1 ((kw l0_0 x12_1).f0) true _ A11.out).mono fun _ _ h=>⟨h.1,h.2.out⟩))|(go_at_call 44;exact Calls.quiet_of ((qvk.calls k1 _ _ ((kw l0_0 x12_1).f3) false _ (by repeat(first|exact(Kd.C_below HR102_3.out (by solve_by_elim (maxDepth:=20) only[HB.out,O,U,L,qq,GE101.out,qq,GE103.out]))|(with_reducible refine Kd.C_alloc ?_ _)|(with_reducible refine Kd.C_drewN ?_ _)|(with_reducible refine Kd.C_drew ?_))) (by exact HC102_3.out) A57.out).mono fun _ _ h=>⟨h.1,h.2.out⟩))))
             clear hS0_ hS1_ hS2_ hS3_ hS4_
             replace BK101:=X.mk (qj BK101.out nq)
             replace BK103:=X.mk (qj BK103.out nq)
             replace HB:=X.mk (U HB.out nq)
             generalize World.drewN w61 nq=w62 at BK101 BK103 HB ⊢
             try go_wp2
             go_meet
             case rel=>exact⟨_,(true),(by first|rfl|(simp;done)|(simp[*];done)),H',⟨by have:=HK1.out;first|omega|exact Nat.le_refl _⟩,⟨by(with_reducible repeat(first|refine qj ?_ _|refine qk ?_|refine qz ?_ _));exact BK101.out⟩,⟨by(with_reducible repeat(first|refine qj ?_ _|refine qk ?_|refine qz ?_ _));exact BK103.out⟩,⟨by repeat(first|(with_reducible first|exact HB.out|apply O|apply U|apply L|refine qq ?_ GE101.out|refine qq ?_ GE103.out)|exact HB.out)⟩⟩
          ·rw[if_neg c53] at H
           have c53b0:((((kw l0_0 x12_1).f1).length:Int) == 16)=false:=beq_eq_false_iff_ne.mpr c53
           have c53b1:((((kw l0_0 x12_1).f1).length:Int) != 16)=true:=bne_iff_ne.mpr c53
           have H':=X.mk H
           clear H
           try go_wp2
           obtain⟨w63,e_⟩:∃ v_,v_=(((((w8.setCell ⟨gb103,0,none⟩ (.string ((kw l0_0 x12_1).f0))).setCell ⟨gb103,1,none⟩ (.slice A102_1 ((kw l0_0 x12_1).f1).length c102_1)).setCell ⟨gb103,2,none⟩ (.slice A102_2 ((kw l0_0 x12_1).f2).length c102_2)).setCell ⟨gb103,3,none⟩ (.slice A102_3 ((kw l0_0 x12_1).f3).length c102_3)).setCell ⟨gb103,4,none⟩ (.slice A102_4 ((kw l0_0 x12_1).f4).length c102_4)):=⟨_,rfl⟩
           have n0_:X (w63.heap[gb101]? = some (.cells #[.slice (some ad102) l0_0.length c0_0,.slice A0_1 l0_1.length c0_1,.int .i64 a0_2,.int .i64 a0_3] 45 (0,0))):=⟨by rewrite[e_];exact far5 BK101.out NB101_103.out⟩
           have n1_:X (w63.heap[gb103]? = some (.cells #[.string ((kw l0_0 x12_1).f0),.slice A102_1 ((kw l0_0 x12_1).f1).length c102_1,.slice A102_2 ((kw l0_0 x12_1).f2).length c102_2,.slice A102_3 ((kw l0_0 x12_1).f3).length c102_3,.slice A102_4 ((kw l0_0 x12_1).f4).length c102_4] 77 (0,0))):=⟨by rewrite[e_];exact put5 BK103.out⟩
           have n2_:X (Below w.heap.size w w63):=⟨by rewrite[e_];repeat(first|(with_reducible first|exact HB.out|apply O|apply U|apply L|refine qq ?_ GE101.out|refine qq ?_ GE103.out)|exact HB.out)⟩
           (try clear BK101)
           (try clear BK103)
           (try clear HB)
           rewrite[←e_]
           clear e_
           have BK101:=n0_
           have BK103:=n1_
           have HB:=n2_
           clear n0_ n1_ n2_
           have hS_:=(show(fun w'=>w'.cell? ⟨gb103,0,none⟩ = some (.string ((kw l0_0 x12_1).f0))∧w'.cell? ⟨gb103,1,none⟩ = some (.slice A102_1 ((kw l0_0 x12_1).f1).length c102_1)∧w'.cell? ⟨gb103,2,none⟩ = some (.slice A102_2 ((kw l0_0 x12_1).f2).length c102_2)∧w'.cell? ⟨gb103,3,none⟩ = some (.slice A102_3 ((kw l0_0 x12_1).f3).length c102_3)∧w'.cell? ⟨gb103,4,none⟩ = some (.slice A102_4 ((kw l0_0 x12_1).f4).length c102_4)) (w63) from⟨(I BK103.out 0).trans rfl,(I BK103.out 1).trans rfl,(I BK103.out 2).trans rfl,(I BK103.out 3).trans rfl,(I BK103.out 4).trans rfl⟩)
           obtain⟨hS0_,hS1_,hS2_,hS3_,hS4_⟩:=hS_
           go_quiet ((first|(go_at_call 37;exact Calls.quiet_of ((qxq.calls k1 ((kw l0_0 x12_1).f0) true _ A11.out).mono fun _ _ h=>⟨h.1,h.2.out⟩))))
           clear hS0_ hS1_ hS2_ hS3_ hS4_
           replace BK101:=X.mk (qj BK101.out nq)
           replace BK103:=X.mk (qj BK103.out nq)
           replace HB:=X.mk (U HB.out nq)
           generalize World.drewN w63 nq=w64 at BK101 BK103 HB ⊢
           try go_wp2
           go_meet
           case rel=>exact⟨_,(true),(by first|rfl|(simp;done)|(simp[*];done)),H',⟨by have:=HK1.out;first|omega|exact Nat.le_refl _⟩,⟨by(with_reducible repeat(first|refine qj ?_ _|refine qk ?_|refine qz ?_ _));exact BK101.out⟩,⟨by(with_reducible repeat(first|refine qj ?_ _|refine qk ?_|refine qz ?_ _));exact BK103.out⟩,⟨by repeat(first|(with_reducible first|exact HB.out|apply O|apply U|apply L|refine qq ?_ GE101.out|refine qq ?_ GE103.out)|exact HB.out)⟩⟩
       ·replace c12:=jq9.mpr c12
        subst c12
        have H1:(qvz.j1 k1 l0_0 (l0_0.length:Int) x12_1 true l0_0 l0_1 a0_2 a0_3 ((kw l0_0 x12_1).f0) ((kw l0_0 x12_1).f1) ((kw l0_0 x12_1).f2) ((kw l0_0 x12_1).f3) ((kw l0_0 x12_1).f4))=some r:=by rw[if_neg (show ¬ (false=true) by decide)] at H;exact H
        clear H
        have H:=H1
        clear H1
        have H':=X.mk H
        clear H
        try go_wp2
        obtain⟨w65,e_⟩:∃ v_,v_=(((((w8.setCell ⟨gb103,0,none⟩ (.string ((kw l0_0 x12_1).f0))).setCell ⟨gb103,1,none⟩ (.slice A102_1 ((kw l0_0 x12_1).f1).length c102_1)).setCell ⟨gb103,2,none⟩ (.slice A102_2 ((kw l0_0 x12_1).f2).length c102_2)).setCell ⟨gb103,3,none⟩ (.slice A102_3 ((kw l0_0 x12_1).f3).length c102_3)).setCell ⟨gb103,4,none⟩ (.slice A102_4 ((kw l0_0 x12_1).f4).length c102_4)):=⟨_,rfl⟩
        have n0_:X (w65.heap[gb101]? = some (.cells #[.slice (some ad102) l0_0.length c0_0,.slice A0_1 l0_1.length c0_1,.int .i64 a0_2,.int .i64 a0_3] 45 (0,0))):=⟨by rewrite[e_];exact far5 BK101.out NB101_103.out⟩
        have n1_:X (w65.heap[gb103]? = some (.cells #[.string ((kw l0_0 x12_1).f0),.slice A102_1 ((kw l0_0 x12_1).f1).length c102_1,.slice A102_2 ((kw l0_0 x12_1).f2).length c102_2,.slice A102_3 ((kw l0_0 x12_1).f3).length c102_3,.slice A102_4 ((kw l0_0 x12_1).f4).length c102_4] 77 (0,0))):=⟨by rewrite[e_];exact put5 BK103.out⟩
        have n2_:X (Below w.heap.size w w65):=⟨by rewrite[e_];repeat(first|(with_reducible first|exact HB.out|apply O|apply U|apply L|refine qq ?_ GE101.out|refine qq ?_ GE103.out)|exact HB.out)⟩
        (try clear BK101)
        (try clear BK103)
        (try clear HB)
        rewrite[←e_]
        clear e_
        have BK101:=n0_
        have BK103:=n1_
        have HB:=n2_
        clear n0_ n1_ n2_
        have hS_:=(show(fun w'=>w'.cell? ⟨gb103,0,none⟩ = some (.string ((kw l0_0 x12_1).f0))∧w'.cell? ⟨gb103,1,none⟩ = some (.slice A102_1 ((kw l0_0 x12_1).f1).length c102_1)∧w'.cell? ⟨gb103,2,none⟩ = some (.slice A102_2 ((kw l0_0 x12_1).f2).length c102_2)∧w'.cell? ⟨gb103,3,none⟩ = some (.slice A102_3 ((kw l0_0 x12_1).f3).length c102_3)∧w'.cell? ⟨gb103,4,none⟩ = some (.slice A102_4 ((kw l0_0 x12_1).f4).length c102_4)) (w65) from⟨(I BK103.out 0).trans rfl,(I BK103.out 1).trans rfl,(I BK103.out 2).trans rfl,(I BK103.out 3).trans rfl,(I BK103.out 4).trans rfl⟩)
        obtain⟨hS0_,hS1_,hS2_,hS3_,hS4_⟩:=hS_
        go_quiet ((first|(go_at_call 37;exact Calls.quiet_of ((qxq.calls k1 ((kw l0_0 x12_1).f0) false _ A11.out).mono fun _ _ h=>⟨h.1,h.2.out⟩))))
        clear hS0_ hS1_ hS2_ hS3_ hS4_
        replace BK101:=X.mk (qj BK101.out nq)
        replace BK103:=X.mk (qj BK103.out nq)
        replace HB:=X.mk (U HB.out nq)
        generalize World.drewN w65 nq=w66 at BK101 BK103 HB ⊢
        try go_wp2
        go_meet
        case rel=>exact⟨_,(true),(by first|rfl|(simp;done)|(simp[*];done)),H',⟨by have:=HK1.out;first|omega|exact Nat.le_refl _⟩,⟨by(with_reducible repeat(first|refine qj ?_ _|refine qk ?_|refine qz ?_ _));exact BK101.out⟩,⟨by(with_reducible repeat(first|refine qj ?_ _|refine qk ?_|refine qz ?_ _));exact BK103.out⟩,⟨by repeat(first|(with_reducible first|exact HB.out|apply O|apply U|apply L|refine qq ?_ GE101.out|refine qq ?_ GE103.out)|exact HB.out)⟩⟩
      case rest =>
       clear HC7
       try clear c1
       try clear p2
       try clear c3
       try clear c10
       try clear c12
       try clear c37
       obtain⟨kq,x67_6,rfl,HA,HJ6,BK101,BK103,HB⟩:=hcut
       cases kq with
       | zero=>exact absurd HA.out (by simp[qvz.j1])
       | succ kj6 =>
        have H:=HA.out
        clear HA
        simp only[qvz.j1] at H
        by_cases c67:x67_6=true
        ·subst c67
         have H1:(some false)=some r:=by rw[if_pos rfl] at H;exact H
         clear H
         have H:=H1
         clear H1
         obtain rfl:=Option.some.inj H
         go_wp2
         go_ret
         exact⟨by first|rfl|(simp[*,zv,zk] <;> rfl),by repeat(first|(with_reducible first|exact HB.out|apply O|apply U|apply L|refine qq ?_ GE101.out|refine qq ?_ GE103.out)|exact HB.out)⟩
        ·replace c67:=jq9.mpr c67
         subst c67
         have H1:(qvz.l1 kj6 l0_0 (l0_0.length:Int) x12_1 ((kw l0_0 x12_1).f2) (((kw l0_0 x12_1).f2).length:Int) 0 l0_0 l0_1 a0_2 a0_3 ((kw l0_0 x12_1).f0) ((kw l0_0 x12_1).f1) ((kw l0_0 x12_1).f2) ((kw l0_0 x12_1).f3) ((kw l0_0 x12_1).f4))=some r:=by rw[if_neg (show ¬ (false=true) by decide)] at H;exact H
         clear H
         have H:=H1
         clear H1
         have H':=X.mk H
         clear H
         have hnb68:=NB103_101.out
         have hnc68:=NB101_103.out
         have hcz69_0:wc.cell? ⟨gb103,0,none⟩ = some (.string ((kw l0_0 x12_1).f0)):=(I BK103.out 0).trans rfl
         have hcz69_1:wc.cell? ⟨gb103,1,none⟩ = some (.slice A102_1 ((kw l0_0 x12_1).f1).length c102_1):=(I BK103.out 1).trans rfl
         have hcz69_2:wc.cell? ⟨gb103,2,none⟩ = some (.slice A102_2 ((kw l0_0 x12_1).f2).length c102_2):=(I BK103.out 2).trans rfl
         have hcz69_3:wc.cell? ⟨gb103,3,none⟩ = some (.slice A102_3 ((kw l0_0 x12_1).f3).length c102_3):=(I BK103.out 3).trans rfl
         have hcz69_4:wc.cell? ⟨gb103,4,none⟩ = some (.slice A102_4 ((kw l0_0 x12_1).f4).length c102_4):=(I BK103.out 4).trans rfl
         have hfz69_0:=J BK103.out 0
         have hfz69_1:=J BK103.out 1
         have hfz69_2:=J BK103.out 2
         have hfz69_3:=J BK103.out 3
         have hfz69_4:=J BK103.out 4
         go_wp2
         go_loopg [71] kj6 (fun kq v71 w'=>∃ (x71_3:Int),v71=.int .i64 x71_3∧X (qvz.l1 kq l0_0 (l0_0.length:Int) x12_1 ((kw l0_0 x12_1).f2) (((kw l0_0 x12_1).f2).length:Int) x71_3 l0_0 l0_1 a0_2 a0_3 ((kw l0_0 x12_1).f0) ((kw l0_0 x12_1).f1) ((kw l0_0 x12_1).f2) ((kw l0_0 x12_1).f3) ((kw l0_0 x12_1).f4)=some r)∧X (kq≤kj6)∧X (w'.heap[gb101]? = some (.cells #[(.slice (some ad102) l0_0.length c0_0),(.slice A0_1 l0_1.length c0_1),.int .i64 a0_2,.int .i64 a0_3] 45 (0,0)))∧X (w'.heap[gb103]? = some (.cells #[.string ((kw l0_0 x12_1).f0),(.slice A102_1 ((kw l0_0 x12_1).f1).length c102_1),(.slice A102_2 ((kw l0_0 x12_1).f2).length c102_2),(.slice A102_3 ((kw l0_0 x12_1).f3).length c102_3),(.slice A102_4 ((kw l0_0 x12_1).f4).length c102_4)] 77 (0,0)))∧X (Below w.heap.size w w'))
         case atStart=>exact⟨(0),(by first|rfl|(simp;done)|(simp[*];done)),H',⟨Nat.le_refl _⟩,⟨by(with_reducible repeat(first|refine qj ?_ _|refine qk ?_|refine qz ?_ _));exact BK101.out⟩,⟨by(with_reducible repeat(first|refine qj ?_ _|refine qk ?_|refine qz ?_ _));exact BK103.out⟩,⟨by repeat(first|(with_reducible first|exact HB.out|apply O|apply U|apply L|refine qq ?_ GE101.out|refine qq ?_ GE103.out)|exact HB.out)⟩⟩
         case round =>
          clear H'
          try clear c1
          try clear p2
          try clear c3
          try clear c6
          try clear c10
          try clear c12
          try clear c37
          try clear c67
          try clear c68
          try clear hcz69_0
          try clear hcz69_1
          try clear hcz69_2
          try clear hcz69_3
          try clear hcz69_4
          try clear hfz69_0
          try clear hfz69_1
          try clear hfz69_2
          try clear hfz69_3
          try clear hfz69_4
          try clear p2
          obtain⟨x71_3,rfl,HA,HK3,BK101,BK103,HB⟩:=hrel
          cases gk with
          | zero=>exact absurd HA.out (by simp[qvz.l1])
          | succ k3 =>
           have H:=HA.out
           clear HA
           simp only[qvz.l1] at H
           by_cases c70:x71_3 < (((kw l0_0 x12_1).f2).length:Int)
           ·rw[if_pos c70] at H
            have c70b0:decide (x71_3 < (((kw l0_0 x12_1).f2).length:Int))=true:=decide_eq_true c70
            clear c70
            by_cases c71 : 0≤x71_3
            ·rw[if_pos c71] at H
             have c71b0:decide (0≤x71_3)=true:=decide_eq_true c71
             clear c71
             by_cases c72:x71_3 < (((kw l0_0 x12_1).f2).length:Int)
             ·rw[if_pos c72] at H
              have c72b0:decide (x71_3 < (((kw l0_0 x12_1).f2).length:Int))=true:=decide_eq_true c72
              clear c72
              by_cases c73:((rdOf ByteArray.empty ((kw l0_0 x12_1).f2) x71_3).size:Int) < 1
              ·rw[if_pos c73] at H
               have c73b0:decide (((rdOf ByteArray.empty ((kw l0_0 x12_1).f2) x71_3).size:Int) < 1)=true:=decide_eq_true c73
               have c73b1:decide ((rdOf ByteArray.empty ((kw l0_0 x12_1).f2) x71_3).size < 1)=true:=decide_eq_true (by omega)
               clear c73
               obtain rfl:=Option.some.inj H
               have p111 : 0≤(x71_3:Int):=of_decide_eq_true (by assumption)
               have q111:x71_3 < (((kw l0_0 x12_1).f2).length:Int):=of_decide_eq_true (by assumption)
               obtain⟨ad111,e111,hx111_0⟩:=Kd.at_string HR102_2.out x71_3 p111 q111
               cases e111
               replace hx111_0:=(HB.out.cell (World.block_lt_of_cell? w _ hx111_0)).trans hx111_0
               replace p111:=eq_true p111
               replace q111:=eq_true q111
               go_wp2
               go_ret
               exact⟨by first|rfl|(simp[*,zv,zk] <;> rfl),by repeat(first|(with_reducible first|exact HB.out|apply O|apply U|apply L|refine qq ?_ GE101.out|refine qq ?_ GE103.out)|exact HB.out)⟩
              ·rw[if_neg c73] at H
               have c73b0:decide (((rdOf ByteArray.empty ((kw l0_0 x12_1).f2) x71_3).size:Int) < 1)=false:=decide_eq_false c73
               have c73b1:decide ((rdOf ByteArray.empty ((kw l0_0 x12_1).f2) x71_3).size < 1)=false:=decide_eq_false (by omega)
               clear c73
               by_cases c74:((rdOf ByteArray.empty ((kw l0_0 x12_1).f2) x71_3).size:Int) > 200
               ·rw[if_pos c74] at H
                have c74b0:decide (200 < ((rdOf ByteArray.empty ((kw l0_0 x12_1).f2) x71_3).size:Int))=true:=decide_eq_true c74
                have c74b1:decide (200 < (rdOf ByteArray.empty ((kw l0_0 x12_1).f2) x71_3).size)=true:=decide_eq_true (by omega)
                clear c74
                obtain rfl:=Option.some.inj H
                have p111 : 0≤(x71_3:Int):=of_decide_eq_true (by assumption)
                have q111:x71_3 < (((kw l0_0 x12_1).f2).length:Int):=of_decide_eq_true (by assumption)
                obtain⟨ad111,e111,hx111_0⟩:=Kd.at_string HR102_2.out x71_3 p111 q111
                cases e111
                replace hx111_0:=(HB.out.cell (World.block_lt_of_cell? w _ hx111_0)).trans hx111_0
                replace p111:=eq_true p111
                replace q111:=eq_true q111
                go_wp2
                go_ret
                exact⟨by first|rfl|(simp[*,zv,zk] <;> rfl),by repeat(first|(with_reducible first|exact HB.out|apply O|apply U|apply L|refine qq ?_ GE101.out|refine qq ?_ GE103.out)|exact HB.out)⟩
               ·rw[if_neg c74] at H
                have c74b0:decide (200 < ((rdOf ByteArray.empty ((kw l0_0 x12_1).f2) x71_3).size:Int))=false:=decide_eq_false c74
                have c74b1:decide (200 < (rdOf ByteArray.empty ((kw l0_0 x12_1).f2) x71_3).size)=false:=decide_eq_false (by omega)
                clear c74
                replace H:=jq8.mp H
                obtain⟨t112,A750,H⟩:=H
                try dsimp only at H
                have A75:=X.mk A750
                clear A750
                by_cases c76:t112=true
                ·subst c76
                 have H1:(qvz.l1 k3 l0_0 (l0_0.length:Int) x12_1 ((kw l0_0 x12_1).f2) (((kw l0_0 x12_1).f2).length:Int) (wrap64 (x71_3 + 1)) l0_0 l0_1 a0_2 a0_3 ((kw l0_0 x12_1).f0) ((kw l0_0 x12_1).f1) ((kw l0_0 x12_1).f2) ((kw l0_0 x12_1).f3) ((kw l0_0 x12_1).f4))=some r:=by rw[if_pos rfl] at H;exact H
                 clear H
                 have H:=H1
                 clear H1
                 have H':=X.mk H
                 clear H
                 have p111 : 0≤(x71_3:Int):=of_decide_eq_true (by assumption)
                 have q111:x71_3 < (((kw l0_0 x12_1).f2).length:Int):=of_decide_eq_true (by assumption)
                 obtain⟨ad111,e111,hx111_0⟩:=Kd.at_string HR102_2.out x71_3 p111 q111
                 cases e111
                 replace hx111_0:=(HB.out.cell (World.block_lt_of_cell? w _ hx111_0)).trans hx111_0
                 replace p111:=eq_true p111
                 replace q111:=eq_true q111
                 go_wp2_with (first|(go_at_call 45;(with_reducible refine(qwz.calls k3 (rdOf ByteArray.empty ((kw l0_0 x12_1).f2) x71_3) true _ A75.out).mono ?_);rintro e w' ⟨rfl,⟨nd,rfl⟩⟩))
                 go_roundg k3
                 case measure=>have:=HK1.out;have:=HJ6.out;have:=HK3.out;omega
                 case rel=>exact⟨(wrap64 (x71_3 + 1)),(by first|rfl|(simp;done)|(simp[*];done)),H',⟨by have:=HK1.out;have:=HJ6.out;have:=HK3.out;omega⟩,⟨by(with_reducible repeat(first|refine qj ?_ _|refine qk ?_|refine qz ?_ _));exact BK101.out⟩,⟨by(with_reducible repeat(first|refine qj ?_ _|refine qk ?_|refine qz ?_ _));exact BK103.out⟩,⟨by repeat(first|(with_reducible first|exact HB.out|apply O|apply U|apply L|refine qq ?_ GE101.out|refine qq ?_ GE103.out)|exact HB.out)⟩⟩
                ·replace c76:=jq9.mpr c76
                 subst c76
                 have H1:(some false)=some r:=by rw[if_neg (show ¬ (false=true) by decide)] at H;exact H
                 clear H
                 have H:=H1
                 clear H1
                 obtain rfl:=Option.some.inj H
                 have p111 : 0≤(x71_3:Int):=of_decide_eq_true (by assumption)
                 have q111:x71_3 < (((kw l0_0 x12_1).f2).length:Int):=of_decide_eq_true (by assumption)
                 obtain⟨ad111,e111,hx111_0⟩:=Kd.at_string HR102_2.out x71_3 p111 q111
                 cases e111
                 replace hx111_0:=(HB.out.cell (World.block_lt_of_cell? w _ hx111_0)).trans hx111_0
                 replace p111:=eq_true p111
                 replace q111:=eq_true q111
                 go_wp2_with (first|(go_at_call 45;(with_reducible refine(qwz.calls k3 (rdOf ByteArray.empty ((kw l0_0 x12_1).f2) x71_3) false _ A75.out).mono ?_);rintro e w' ⟨rfl,⟨nd,rfl⟩⟩))
                 go_ret
                 exact⟨by first|rfl|(simp[*,zv,zk] <;> rfl),by repeat(first|(with_reducible first|exact HB.out|apply O|apply U|apply L|refine qq ?_ GE101.out|refine qq ?_ GE103.out)|exact HB.out)⟩
             ·rw[if_neg c72] at H
              exact absurd H (by simp)
            ·rw[if_neg c71] at H
             exact absurd H (by simp)
           ·rw[if_neg c70] at H
            have c70b0:decide (x71_3 < (((kw l0_0 x12_1).f2).length:Int))=false:=decide_eq_false c70
            clear c70
            have H':=X.mk H
            clear H
            have hnb77:=NB103_101.out
            have hnc77:=NB101_103.out
            have hcz78_0:wr.cell? ⟨gb103,0,none⟩ = some (.string ((kw l0_0 x12_1).f0)):=(I BK103.out 0).trans rfl
            have hcz78_1:wr.cell? ⟨gb103,1,none⟩ = some (.slice A102_1 ((kw l0_0 x12_1).f1).length c102_1):=(I BK103.out 1).trans rfl
            have hcz78_2:wr.cell? ⟨gb103,2,none⟩ = some (.slice A102_2 ((kw l0_0 x12_1).f2).length c102_2):=(I BK103.out 2).trans rfl
            have hcz78_3:wr.cell? ⟨gb103,3,none⟩ = some (.slice A102_3 ((kw l0_0 x12_1).f3).length c102_3):=(I BK103.out 3).trans rfl
            have hcz78_4:wr.cell? ⟨gb103,4,none⟩ = some (.slice A102_4 ((kw l0_0 x12_1).f4).length c102_4):=(I BK103.out 4).trans rfl
            have hfz78_0:=J BK103.out 0
            have hfz78_1:=J BK103.out 1
            have hfz78_2:=J BK103.out 2
            have hfz78_3:=J BK103.out 3
            have hfz78_4:=J BK103.out 4
            go_wp2
            go_loopg [92] k3 (fun kq v92 w'=>∃ (x92_4:Int),v92=.int .i64 x92_4∧X (qvz.l2 kq l0_0 (l0_0.length:Int) x12_1 ((kw l0_0 x12_1).f4) (((kw l0_0 x12_1).f4).length:Int) x92_4 l0_0 l0_1 a0_2 a0_3=some r)∧X (kq≤k3)∧X (w'.heap[gb101]? = some (.cells #[(.slice (some ad102) l0_0.length c0_0),(.slice A0_1 l0_1.length c0_1),.int .i64 a0_2,.int .i64 a0_3] 45 (0,0)))∧X (w'.heap[gb103]? = some (.cells #[.string ((kw l0_0 x12_1).f0),(.slice A102_1 ((kw l0_0 x12_1).f1).length c102_1),(.slice A102_2 ((kw l0_0 x12_1).f2).length c102_2),(.slice A102_3 ((kw l0_0 x12_1).f3).length c102_3),(.slice A102_4 ((kw l0_0 x12_1).f4).length c102_4)] 77 (0,0)))∧X (Below w.heap.size w w'))
            case atStart=>exact⟨(0),(by first|rfl|(simp;done)|(simp[*];done)),H',⟨Nat.le_refl _⟩,⟨by(with_reducible repeat(first|refine qj ?_ _|refine qk ?_|refine qz ?_ _));exact BK101.out⟩,⟨by(with_reducible repeat(first|refine qj ?_ _|refine qk ?_|refine qz ?_ _));exact BK103.out⟩,⟨by repeat(first|(with_reducible first|exact HB.out|apply O|apply U|apply L|refine qq ?_ GE101.out|refine qq ?_ GE103.out)|exact HB.out)⟩⟩
            case round =>
             clear H'
             try clear c1
             try clear p1
             try clear q1
             try clear hx1
             try clear p2
             try clear c3
             try clear c6
             try clear p6
             try clear c7
             try clear c10
             try clear p11
             try clear q11
             try clear hx11
             try clear c12
             try clear c37
             try clear p64
             try clear c67
             try clear c68
             try clear c70
             try clear c70b0
             try clear c71
             try clear c71b0
             try clear c72
             try clear c72b0
             try clear c73
             try clear c73b0
             try clear c73b1
             try clear c74
             try clear c74b0
             try clear c74b1
             try clear c76
             try clear c77
             try clear hcz69_0
             try clear hcz69_1
             try clear hcz69_2
             try clear hcz69_3
             try clear hcz69_4
             try clear hcz78_0
             try clear hcz78_1
             try clear hcz78_2
             try clear hcz78_3
             try clear hcz78_4
             try clear hfz69_0
             try clear hfz69_1
             try clear hfz69_2
             try clear hfz69_3
             try clear hfz69_4
             try clear hfz78_0
             try clear hfz78_1
             try clear hfz78_2
             try clear hfz78_3
             try clear hfz78_4
             try clear hx111_0
             try clear p111
             try clear p2
             try clear q111
             obtain⟨x92_4,rfl,HA,HK4,BK101,BK103,HB⟩:=hrel
             cases gk with
             | zero=>exact absurd HA.out (by simp[qvz.l2])
             | succ k4 =>
              have H:=HA.out
              clear HA
              simp only[qvz.l2] at H
              by_cases c79:x92_4 < (((kw l0_0 x12_1).f4).length:Int)
              ·rw[if_pos c79] at H
               have c79b0:decide (x92_4 < (((kw l0_0 x12_1).f4).length:Int))=true:=decide_eq_true c79
               clear c79
               by_cases c80 : 0≤x92_4
               ·rw[if_pos c80] at H
                have c80b0:decide (0≤x92_4)=true:=decide_eq_true c80
                clear c80
                by_cases c81:x92_4 < (((kw l0_0 x12_1).f4).length:Int)
                ·rw[if_pos c81] at H
                 have c81b0:decide (x92_4 < (((kw l0_0 x12_1).f4).length:Int))=true:=decide_eq_true c81
                 clear c81
                 by_cases c82:(rd ((kw l0_0 x12_1).f4) x92_4) < 1
                 ·rw[if_pos c82] at H
                  have c82b0:decide ((rd ((kw l0_0 x12_1).f4) x92_4) < 1)=true:=decide_eq_true c82
                  clear c82
                  obtain rfl:=Option.some.inj H
                  have p113 : 0≤(x92_4:Int):=of_decide_eq_true (by assumption)
                  have q113:x92_4 < (((kw l0_0 x12_1).f4).length:Int):=of_decide_eq_true (by assumption)
                  obtain⟨ad113,e113,hx113_0⟩:=Kd.at_int HR102_4.out x92_4 p113 q113
                  cases e113
                  replace hx113_0:=(HB.out.cell (World.block_lt_of_cell? w _ hx113_0)).trans hx113_0
                  replace p113:=eq_true p113
                  replace q113:=eq_true q113
                  go_wp2
                  go_ret
                  exact⟨by first|rfl|(simp[*,zv,zk] <;> rfl),by repeat(first|(with_reducible first|exact HB.out|apply O|apply U|apply L|refine qq ?_ GE101.out|refine qq ?_ GE103.out)|exact HB.out)⟩
                 ·rw[if_neg c82] at H
                  have c82b0:decide ((rd ((kw l0_0 x12_1).f4) x92_4) < 1)=false:=decide_eq_false c82
                  clear c82
                  by_cases c83:(rd ((kw l0_0 x12_1).f4) x92_4) > 4
                  ·rw[if_pos c83] at H
                   have c83b0:decide (4 < (rd ((kw l0_0 x12_1).f4) x92_4))=true:=decide_eq_true c83
                   clear c83
                   obtain rfl:=Option.some.inj H
                   have p113 : 0≤(x92_4:Int):=of_decide_eq_true (by assumption)
                   have q113:x92_4 < (((kw l0_0 x12_1).f4).length:Int):=of_decide_eq_true (by assumption)
                   obtain⟨ad113,e113,hx113_0⟩:=Kd.at_int HR102_4.out x92_4 p113 q113
                   cases e113
                   replace hx113_0:=(HB.out.cell (World.block_lt_of_cell? w _ hx113_0)).trans hx113_0
                   replace p113:=eq_true p113
                   replace q113:=eq_true q113
                   go_wp2
                   go_ret
                   exact⟨by first|rfl|(simp[*,zv,zk] <;> rfl),by repeat(first|(with_reducible first|exact HB.out|apply O|apply U|apply L|refine qq ?_ GE101.out|refine qq ?_ GE103.out)|exact HB.out)⟩
                  ·rw[if_neg c83] at H
                   have c83b0:decide (4 < (rd ((kw l0_0 x12_1).f4) x92_4))=false:=decide_eq_false c83
                   clear c83
                   have H':=X.mk H
                   clear H
                   have p113 : 0≤(x92_4:Int):=of_decide_eq_true (by assumption)
                   have q113:x92_4 < (((kw l0_0 x12_1).f4).length:Int):=of_decide_eq_true (by assumption)
                   obtain⟨ad113,e113,hx113_0⟩:=Kd.at_int HR102_4.out x92_4 p113 q113
                   cases e113
                   replace hx113_0:=(HB.out.cell (World.block_lt_of_cell? w _ hx113_0)).trans hx113_0
                   replace p113:=eq_true p113
                   replace q113:=eq_true q113
                   go_wp2
                   go_roundg k4
                   case measure=>have:=HK1.out;have:=HJ6.out;have:=HK3.out;have:=HK4.out;omega
                   case rel=>exact⟨(wrap64 (x92_4 + 1)),(by first|rfl|(simp;done)|(simp[*];done)),H',⟨by have:=HK1.out;have:=HJ6.out;have:=HK3.out;have:=HK4.out;omega⟩,⟨by(with_reducible repeat(first|refine qj ?_ _|refine qk ?_|refine qz ?_ _));exact BK101.out⟩,⟨by(with_reducible repeat(first|refine qj ?_ _|refine qk ?_|refine qz ?_ _));exact BK103.out⟩,⟨by repeat(first|(with_reducible first|exact HB.out|apply O|apply U|apply L|refine qq ?_ GE101.out|refine qq ?_ GE103.out)|exact HB.out)⟩⟩
                ·rw[if_neg c81] at H
                 exact absurd H (by simp)
               ·rw[if_neg c80] at H
                exact absurd H (by simp)
              ·rw[if_neg c79] at H
               have c79b0:decide (x92_4 < (((kw l0_0 x12_1).f4).length:Int))=false:=decide_eq_false c79
               clear c79
               have H':=X.mk H
               clear H
               go_wp2
               go_roundg k4
               case measure=>have:=HK1.out;have:=HJ6.out;have:=HK3.out;have:=HK4.out;omega
               case rel=>exact⟨(wrap64 (x12_1 + 1)),(by first|rfl|(simp;done)|(simp[*];done)),H',⟨by have:=HK1.out;have:=HJ6.out;have:=HK3.out;have:=HK4.out;omega⟩,⟨by(with_reducible repeat(first|refine qj ?_ _|refine qk ?_|refine qz ?_ _));exact BK101.out⟩,⟨by repeat(first|(with_reducible first|exact HB.out|apply O|apply U|apply L|refine qq ?_ GE101.out|refine qq ?_ GE103.out)|exact HB.out)⟩⟩
     ·rw[if_neg c6] at H
      exact absurd H (by simp)
    ·rw[if_neg c5] at H
     exact absurd H (by simp)
   ·rw[if_neg c4] at H
    have c4b0:decide (x12_1 < (l0_0.length:Int))=false:=decide_eq_false c4
    clear c4
    by_cases c84:(l0_0.length:Int)≤20
    ·rw[if_pos c84] at H
     have c84b0:decide ((l0_0.length:Int)≤20)=true:=decide_eq_true c84
     have c84b1:decide (l0_0.length≤20)=true:=decide_eq_true (by omega)
     clear c84
     by_cases c85:(l0_1.length:Int)≤64
     ·rw[if_pos c85] at H
      have c85b0:decide ((l0_1.length:Int)≤64)=true:=decide_eq_true c85
      have c85b1:decide (l0_1.length≤64)=true:=decide_eq_true (by omega)
      clear c85
      by_cases c86:a0_2 ≥ 1
      ·rw[if_pos c86] at H
       have c86b0:decide (1≤a0_2)=true:=decide_eq_true c86
       clear c86
       by_cases c87:a0_2≤1000000
       ·rw[if_pos c87] at H
        have c87b0:decide (a0_2≤1000000)=true:=decide_eq_true c87
        clear c87
        by_cases c88:a0_3 ≥ 1
        ·rw[if_pos c88] at H
         have c88b0:decide (1≤a0_3)=true:=decide_eq_true c88
         clear c88
         obtain rfl:=Option.some.inj H
         have hcz89_0:wr.cell? ⟨gb101,0,none⟩ = some (.slice A0_0 l0_0.length c0_0):=(I BK101.out 0).trans rfl
         have hcz89_1:wr.cell? ⟨gb101,1,none⟩ = some (.slice A0_1 l0_1.length c0_1):=(I BK101.out 1).trans rfl
         have hcz89_2:wr.cell? ⟨gb101,2,none⟩ = some (.int .i64 a0_2):=(I BK101.out 2).trans rfl
         have hcz89_3:wr.cell? ⟨gb101,3,none⟩ = some (.int .i64 a0_3):=(I BK101.out 3).trans rfl
         have hfz89_0:=J BK101.out 0
         have hfz89_1:=J BK101.out 1
         have hfz89_2:=J BK101.out 2
         have hfz89_3:=J BK101.out 3
         go_wp2
         go_ret
         exact⟨by first|rfl|(simp[*,zv,zk] <;> rfl),by repeat(first|(with_reducible first|exact HB.out|apply O|apply U|apply L|refine qq ?_ GE101.out)|exact HB.out)⟩
        ·rw[if_neg c88] at H
         have c88b0:decide (1≤a0_3)=false:=decide_eq_false c88
         clear c88
         obtain rfl:=Option.some.inj H
         have hcz90_0:wr.cell? ⟨gb101,0,none⟩ = some (.slice A0_0 l0_0.length c0_0):=(I BK101.out 0).trans rfl
         have hcz90_1:wr.cell? ⟨gb101,1,none⟩ = some (.slice A0_1 l0_1.length c0_1):=(I BK101.out 1).trans rfl
         have hcz90_2:wr.cell? ⟨gb101,2,none⟩ = some (.int .i64 a0_2):=(I BK101.out 2).trans rfl
         have hcz90_3:wr.cell? ⟨gb101,3,none⟩ = some (.int .i64 a0_3):=(I BK101.out 3).trans rfl
         have hfz90_0:=J BK101.out 0
         have hfz90_1:=J BK101.out 1
         have hfz90_2:=J BK101.out 2
         have hfz90_3:=J BK101.out 3
         go_wp2
         go_ret
         exact⟨by first|rfl|(simp[*,zv,zk] <;> rfl),by repeat(first|(with_reducible first|exact HB.out|apply O|apply U|apply L|refine qq ?_ GE101.out)|exact HB.out)⟩
       ·rw[if_neg c87] at H
        have c87b0:decide (a0_2≤1000000)=false:=decide_eq_false c87
        clear c87
        obtain rfl:=Option.some.inj H
        have hcz91_0:wr.cell? ⟨gb101,0,none⟩ = some (.slice A0_0 l0_0.length c0_0):=(I BK101.out 0).trans rfl
        have hcz91_1:wr.cell? ⟨gb101,1,none⟩ = some (.slice A0_1 l0_1.length c0_1):=(I BK101.out 1).trans rfl
        have hcz91_2:wr.cell? ⟨gb101,2,none⟩ = some (.int .i64 a0_2):=(I BK101.out 2).trans rfl
        have hcz91_3:wr.cell? ⟨gb101,3,none⟩ = some (.int .i64 a0_3):=(I BK101.out 3).trans rfl
        have hfz91_0:=J BK101.out 0
        have hfz91_1:=J BK101.out 1
        have hfz91_2:=J BK101.out 2
        have hfz91_3:=J BK101.out 3
        go_wp2
        go_ret
        exact⟨by first|rfl|(simp[*,zv,zk] <;> rfl),by repeat(first|(with_reducible first|exact HB.out|apply O|apply U|apply L|refine qq ?_ GE101.out)|exact HB.out)⟩
      ·rw[if_neg c86] at H
       have c86b0:decide (1≤a0_2)=false:=decide_eq_false c86
       clear c86
       obtain rfl:=Option.some.inj H
       have hcz92_0:wr.cell? ⟨gb101,0,none⟩ = some (.slice A0_0 l0_0.length c0_0):=(I BK101.out 0).trans rfl
       have hcz92_1:wr.cell? ⟨gb101,1,none⟩ = some (.slice A0_1 l0_1.length c0_1):=(I BK101.out 1).trans rfl
       have hcz92_2:wr.cell? ⟨gb101,2,none⟩ = some (.int .i64 a0_2):=(I BK101.out 2).trans rfl
       have hcz92_3:wr.cell? ⟨gb101,3,none⟩ = some (.int .i64 a0_3):=(I BK101.out 3).trans rfl
       have hfz92_0:=J BK101.out 0
       have hfz92_1:=J BK101.out 1
       have hfz92_2:=J BK101.out 2
       have hfz92_3:=J BK101.out 3
       go_wp2
       go_ret
       exact⟨by first|rfl|(simp[*,zv,zk] <;> rfl),by repeat(first|(with_reducible first|exact HB.out|apply O|apply U|apply L|refine qq ?_ GE101.out)|exact HB.out)⟩
     ·rw[if_neg c85] at H
      have c85b0:decide ((l0_1.length:Int)≤64)=false:=decide_eq_false c85
      have c85b1:decide (l0_1.length≤64)=false:=decide_eq_false (by omega)
      clear c85
      obtain rfl:=Option.some.inj H
      have hcz93_0:wr.cell? ⟨gb101,0,none⟩ = some (.slice A0_0 l0_0.length c0_0):=(I BK101.out 0).trans rfl
      have hcz93_1:wr.cell? ⟨gb101,1,none⟩ = some (.slice A0_1 l0_1.length c0_1):=(I BK101.out 1).trans rfl
      have hcz93_2:wr.cell? ⟨gb101,2,none⟩ = some (.int .i64 a0_2):=(I BK101.out 2).trans rfl
      have hcz93_3:wr.cell? ⟨gb101,3,none⟩ = some (.int .i64 a0_3):=(I BK101.out 3).trans rfl
      have hfz93_0:=J BK101.out 0
      have hfz93_1:=J BK101.out 1
      have hfz93_2:=J BK101.out 2
      have hfz93_3:=J BK101.out 3
      go_wp2
      go_ret
      exact⟨by first|rfl|(simp[*,zv,zk] <;> rfl),by repeat(first|(with_reducible first|exact HB.out|apply O|apply U|apply L|refine qq ?_ GE101.out)|exact HB.out)⟩
    ·rw[if_neg c84] at H
     have c84b0:decide ((l0_0.length:Int)≤20)=false:=decide_eq_false c84
     have c84b1:decide (l0_0.length≤20)=false:=decide_eq_false (by omega)
     clear c84
     obtain rfl:=Option.some.inj H
     have hcz94_0:wr.cell? ⟨gb101,0,none⟩ = some (.slice A0_0 l0_0.length c0_0):=(I BK101.out 0).trans rfl
     have hcz94_1:wr.cell? ⟨gb101,1,none⟩ = some (.slice A0_1 l0_1.length c0_1):=(I BK101.out 1).trans rfl
     have hcz94_2:wr.cell? ⟨gb101,2,none⟩ = some (.int .i64 a0_2):=(I BK101.out 2).trans rfl
     have hcz94_3:wr.cell? ⟨gb101,3,none⟩ = some (.int .i64 a0_3):=(I BK101.out 3).trans rfl
     have hfz94_0:=J BK101.out 0
     have hfz94_1:=J BK101.out 1
     have hfz94_2:=J BK101.out 2
     have hfz94_3:=J BK101.out 3
     go_wp2
     go_ret
     exact⟨by first|rfl|(simp[*,zv,zk] <;> rfl),by repeat(first|(with_reducible first|exact HB.out|apply O|apply U|apply L|refine qq ?_ GE101.out)|exact HB.out)⟩
end Go.Proofs.Ytakocdkcfjkmdaa.Pr
