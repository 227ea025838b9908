/- Printed texts, walks and plain facts that the law FnExactSignToken leans on, joined. -/
import Derived.Test.YtkcdefnpbnbaeaaGreatDoorFullFnExactSignTokenA
import Derived.ProofKit
import Derived.OpenShut
import Derived.ShutString
import Derived.ChangeOld
import Derived.Deep.Slices
import Derived.Lib.SmallJoins
import Derived.Test.YtkcdefnpbnbaeaaGreatDoorProg
import Derived.Below
import Derived.Deep.Draws
import Derived.Deep.AppendLies
import Derived.Maps.AppendAt
import Derived.OwnWalk
import Derived.Laws.BytesArg
import Derived.Laws.MakeOwn
import Derived.Laws.OwnMore
import Derived.Deep.OwnRows
import Derived.Tactics
import Derived.Lib.ConvBytes
import Derived.Laws.Slices
import Derived.WalkKit
import Derived.KernelRfl
import Derived.RowKit3
import Derived.Deep.LoopGhost
import Derived.Deep.QuietTactic
import Derived.BigQuiet
import Derived.WideLaws
import Derived.Deep.DeepCutAuto
import Derived.Deep.CutBlock
import Derived.Deep.RegionHeld3
import Derived.Laws.Rows
import Derived.Lib.AppendStr
import Derived.ArgAppend
import Derived.Laws.IdiomCopy
import Derived.OrdersHeld
import Derived.Laws.BitsLemmas
import Derived.RowKit
import Derived.Laws.Cover1
set_option maxHeartbeats 8000000
set_option maxRecDepth 100000
open List renaming map_toArray → jq0, map_cons → jq1, map_nil → jq2, length_drop → jq3, length_take → jq4, setIfInBounds_toArray → jq5, set_cons_zero → jq6, set_cons_succ → jq7
open Option renaming bind_eq_some_iff → jq8
open Bool renaming eq_false_iff → jq9, true → Z, false → Y
namespace Go.Proofs.YtkcdefnpbnbaeaaGreatDoor.Read
open Go.RowKit Go.ChangeShapes Go.WideShapes Go.Deep Go.Proofs.YtkcdefnpbnbaeaaGreatDoorW.PrintWords
set_option linter.unusedVariables false
def Tells (P:Program) (t:TypeId) {α:Type} (d:Kd α) (ok : α→Prop):Prop :=
 P.cellsOf t=d.sz∧∀ (H:Type) (enc:TypeId × Value→H) (w:World) (sp:Nat→Bool) (fuel:Nat) (cs:List Value) (x:DataW H × List MemPlace),
  DataW.trod enc P w 0 sp true fuel t cs=some x→∃ a : α,d.K w a cs∧ok a
theorem tells_int {P:Program} {t:TypeId} {k:IntKind} (ht:P.underlying t=some (.int k)) (hc:P.cellsOf t=1):Tells P t (Kd.int k) (fun n=>(Lit.int k n).wf=true) :=
 ⟨hc,fun H enc w sp fuel cs x h=>by
  obtain⟨n,rfl,_,hw⟩:=DataW.trod_int ht h;exact⟨n,rfl,hw⟩⟩
theorem tells_string {P:Program} {t:TypeId} (ht:P.underlying t=some .string) (hc:P.cellsOf t=1):Tells P t Kd.string (fun s=>s.size≤maxLen) :=
 ⟨hc,fun H enc w sp fuel cs x h=>by
  obtain⟨n,rfl,_,hs⟩:=DataW.trod_string ht h;exact⟨n,rfl,hs⟩⟩
theorem tells_slice {P:Program} {t e:TypeId} {α:Type} {d:Kd α} {ok : α→Prop} (ht:P.underlying t=some (.slice e)) (hc:P.cellsOf t=1) (he:Tells P e d ok) :
  Tells P t (Kd.slice e d) (fun xs=>xs.length≤9223372036854775807∧∀ x ∈ xs,ok x):=by
 refine⟨hc,fun H enc w sp fuel cs x h=>?_⟩
 rcases open_slice ht h with ⟨rfl,_⟩|⟨a,len,cap,m,n,D,Pl,rfl,_,hl,hm,hmm,_,hx⟩
 ·exact⟨[],⟨none,0,rfl,by simp,Kd.C_nil d w⟩,by simp,by simp⟩
 ·have hlm:len≤m:=by rw[hmm];split <;> omega
  have hmax:len≤9223372036854775807:=by unfold maxLen at hm;omega
  have key:∀ j,j≤len→∃ xs:List α,xs.length=j∧(∀ x ∈ xs,ok x)∧∀ i p,xs[i]? = some p→∃ c,c.length=d.sz∧d.K w p c∧∀ k u,c[k]? = some u→w.cell? (a.add (i * d.sz + k))=some u:=by
   intro j
   induction j with
   | zero=>exact fun _=>⟨[],rfl,by simp,by simp⟩
   | succ j ih =>
    intro hj
    obtain⟨xs,hxl,hok,hc⟩:=ih (by omega);obtain⟨cs',h1,h2⟩:=hx j (by omega);obtain⟨y,hy,hoky⟩:=he.2 H enc w sp n cs' _ h2;obtain⟨_,hcl,hcc⟩:=World.cells?_some h1;refine⟨xs ++ [y],by simp[hxl],fun x hx=>?_,fun i p hp=>?_⟩
    ·rcases List.mem_append.1 hx with hx|hx
     ·exact hok x hx
     ·rw[List.mem_singleton.1 hx];exact hoky
    ·rcases Nat.lt_or_ge i xs.length with hi|hi
     ·rw[List.getElem?_append_left hi] at hp;exact hc i p hp
     ·rw[List.getElem?_append_right hi] at hp
      have hi':i=xs.length:=by
       rcases Nat.eq_zero_or_pos (i - xs.length) with h0|h0
       ·omega
       ·rw[List.getElem?_eq_none (by simp;omega)] at hp;cases hp
      subst hi';simp only[Nat.sub_self,List.getElem?_cons_zero,Option.some.injEq] at hp;subst hp;refine⟨cs',by rw[hcl,he.1],hy,fun k u hu=>?_⟩
      have hk:k < P.cellsOf e:=by
       rcases Nat.lt_or_ge k cs'.length with h|h
       ·omega
       ·rw[List.getElem?_eq_none h] at hu;cases hu
      have:=hcc k hk;rw[Go.Addr.add_add,he.1,← hxl] at this;rw[this];exact hu
  obtain⟨xs,hxl,hok,hc⟩:=key len (Nat.le_refl _);refine⟨xs,⟨some a,cap,by rw[hxl],by omega,?_⟩,by omega,hok⟩;exact⟨rfl,by omega,fun _=>⟨a,rfl,hc⟩⟩
def TellsFs (P:Program) (fs:List Field) (o:Nat) {α:Type} (d:Kd α) (ok : α→Prop):Prop :=
 ∀ (H:Type) (enc:TypeId × Value→H) (w:World) (sp:Nat→Bool) (n:Nat) (cs:List Value),o + d.sz=cs.length →
  (∀ f ∈ fs,∃ x,DataW.trod enc P w 0 sp true n f.type ((cs.drop f.offset).take (P.cellsOf f.type))=some x)→∃ a,d.K w a (cs.drop o)∧ok a
theorem fs_one {P:Program} {f:Field} {o:Nat} {α:Type} {d:Kd α} {ok : α→Prop} (ho:f.offset=o) (hf:Tells P f.type d ok):TellsFs P [f] o d ok:=by
 intro H enc w sp n cs hl h
 obtain⟨x,hx⟩:=h f List.mem_cons_self;obtain⟨a,ha,hok⟩:=hf.2 H enc w sp n _ x hx;refine⟨a,?_,hok⟩;rw[ho,hf.1,List.take_of_length_le (by rw[jq3];omega)] at ha;exact ha
theorem fs_cons {P:Program} {f:Field} {fs:List Field} {o:Nat} {α β:Type} {d:Kd α} {ok : α→Prop} {d2:Kd β} {ok2 : β→Prop} (ho:f.offset=o) (hf:Tells P f.type d ok)
  (hr:TellsFs P fs (o + d.sz) d2 ok2):TellsFs P (f :: fs) o (Kd.pair d d2) (fun p=>ok p.1∧ok2 p.2):=by
 intro H enc w sp n cs hl h
 have hl':o + (d.sz + d2.sz)=cs.length:=hl;obtain⟨x,hx⟩:=h f List.mem_cons_self;obtain⟨a,ha,hok⟩:=hf.2 H enc w sp n _ x hx;obtain⟨b,hb,hok2⟩:=hr H enc w sp n cs (by omega) (fun g hg=>h g (List.mem_cons_of_mem _ hg));refine⟨(a,b),⟨(cs.drop o).take d.sz,cs.drop (o + d.sz),?_,?_,hb⟩,hok,hok2⟩
 ·rw[← List.drop_drop,List.take_append_drop]
 ·rw[ho,hf.1] at ha;exact ha
theorem tells_struct {P:Program} {t:TypeId} {fs:Array Field} {α:Type} {d:Kd α} {ok : α→Prop} (ht:P.underlying t=some (.struct fs)) (hc:P.cellsOf t=d.sz) (hf:TellsFs P fs.toList 0 d ok):Tells P t d ok:=by
 refine⟨hc,fun H enc w sp fuel cs x h=>?_⟩;obtain⟨xs,n,rfl,_,hl,hxl,hx⟩:=DataW.trod_struct ht h
 have:=hf H enc w sp n cs (by rw[Nat.zero_add,← hc,hl]) (fun f hmem=>by
  obtain⟨i,hi,rfl⟩:=List.getElem_of_mem hmem;have hi':i < fs.size:=by simpa using hi
  have h1:=hx i (fs.toList[i]) (by simp[hi']);refine⟨xs[i]'(by omega),?_⟩;rw[h1,List.getElem?_eq_getElem])
 simpa using this
theorem tells_iso {P:Program} {t:TypeId} {α β:Type} {d:Kd α} {ok : α→Prop} (f : β→α) (g : α→β) (hfg:∀ a,f (g a)=a) (h:Tells P t d ok):Tells P t (Kd.iso d f) (fun b=>ok (f b)) :=
 ⟨h.1,fun H enc w sp fuel cs x hx=>by
  obtain⟨a,ha,hok⟩:=h.2 H enc w sp fuel cs x hx;exact⟨g a,by show d.K w (f (g a)) cs;rw[hfg];exact ha,by show ok (f (g a));rw[hfg];exact hok⟩⟩
theorem tells_weaken {P:Program} {t:TypeId} {α:Type} {d:Kd α} {ok ok' : α→Prop} (h:Tells P t d ok) (hw:∀ a,ok a→ok' a):Tells P t d ok' :=
 ⟨h.1,fun H enc w sp fuel cs x hx=>let ⟨a,ha,ho⟩:=h.2 H enc w sp fuel cs x hx;⟨a,ha,hw a ho⟩⟩
theorem tells_arg {P:Program} {t:TypeId} {α:Type} {d:Kd α} {ok : α→Prop} (h:Tells P t d ok) {H:Type} {enc:TypeId × Value→H} {w:World} {sp:Nat→Bool} {v:Value} {D:DataW H} {ps:List MemPlace}
  (hv:DataW.Trod enc P w 0 sp true t v D ps):∃ a,d.K w a v.cells.toList∧ok a:=by
 obtain⟨fuel,hf⟩:=hv;exact h.2 H enc w sp fuel _ _ hf
theorem int_bounds {n:Int} (h:(Lit.int .i64 n).wf=true) : -9223372036854775808≤n∧n≤9223372036854775807:=by
 simpa [Lit.wf,IntKind.min,IntKind.max,IntKind.signed,IntKind.bits] using h
def okI (n:Int):Prop:=-9223372036854775808≤n∧n≤9223372036854775807
def okS (s:ByteArray):Prop:=s.size≤9223372036854775807
def okL {α:Type} (ok : α→Prop) (xs:List α):Prop:=xs.length≤9223372036854775807∧∀ x ∈ xs,ok x
theorem tellsI {P:Program} {t:TypeId} (ht:P.underlying t=some (.int .i64)) (hc:P.cellsOf t=1):Tells P t (Kd.int .i64) okI:=tells_weaken (tells_int ht hc) fun _ h=>int_bounds h
theorem tellsS {P:Program} {t:TypeId} (ht:P.underlying t=some .string) (hc:P.cellsOf t=1):Tells P t Kd.string okS:=tells_weaken (tells_string ht hc) fun _ h=>by unfold maxLen at h;exact h
theorem tellsL {P:Program} {t e:TypeId} {α:Type} {d:Kd α} {ok : α→Prop} (ht:P.underlying t=some (.slice e)) (hc:P.cellsOf t=1) (he:Tells P e d ok):Tells P t (Kd.slice e d) (okL ok):=tells_slice ht hc he
theorem agg_of {P:Program} {t:TypeId} {fs:Array Field} {w:World} {r:Reach} {base:Nat} {v:Value} {cs:List Value} (ht:P.underlying t=some (.struct fs)) (hv:Value.okWide P w r base t v) (hc:v.cells.toList=cs):v=.agg cs.toArray:=by
 obtain⟨xs,rfl,_⟩:=okWide_struct ht hv;subst hc;simp[Value.cells]
theorem arg_struct {P:Program} {t:TypeId} {fs:Array Field} {α:Type} {d:Kd α} {ok : α→Prop} (ht:P.underlying t=some (.struct fs)) (h:Tells P t d ok) {H:Type} {enc:TypeId × Value→H} {w w2:World} {r:Reach} {base:Nat} {sp:Nat→Bool} {v:Value} {D:DataW H} {ps:List MemPlace}
  (ho:Value.okWide P w2 r base t v) (hv:DataW.Trod enc P w 0 sp true t v D ps):∃ a cs,v=.agg cs.toArray∧d.K w a cs∧ok a:=by
 obtain⟨a,hK,hok⟩:=tells_arg h hv;exact⟨a,_,agg_of ht ho rfl,hK,hok⟩
end Go.Proofs.YtkcdefnpbnbaeaaGreatDoor.Read
namespace Go.Proofs.YtkcdefnpbnbaeaaGreatDoor.Pr
open Go.RowKit Go.Proofs.YtkcdefnpbnbaeaaGreatDoorW.PrintWords Go.Proofs.YtkcdefnpbnbaeaaGreatDoorW.PrintLast Go.Proofs.YtkcdefnpbnbaeaaGreatDoorW.PrintMore
attribute [local go_sem] max2_int min2_int max_two min_two max_three min_three max_four min_four
set_option linter.unusedVariables false
set_option linter.unusedSimpArgs false
def errW:Option Int→Value
 | none=>.nilIface
 | some c=>.iface 0 (.int .i64 c)
theorem zw:errW none=.nilIface:=rfl
theorem zv (c:Int):errW (some c)=.iface 0 (.int .i64 c):=rfl
theorem info5:(Tryz.prog.info? 5).map (fun i=>(i.zero,i.size,i.bytes))=some (some (.int .u8 0),1,1):=by kernel_rfl
theorem info9:(Tryz.prog.info? 9).map (fun i=>(i.zero,i.size,i.bytes))=some (some (.string ⟨#[]⟩),1,16):=by kernel_rfl
theorem info30:(Tryz.prog.info? 30).map (fun i=>(i.zero,i.size,i.bytes))=some (some (.agg #[(.int .i64 0),(.int .i64 0),(.string ⟨#[]⟩),(.string ⟨#[]⟩)]),4,48):=by kernel_rfl
structure S23 where
 f0:Int
 f1:Int
 f2:ByteArray
 f3:ByteArray
def z23:S23:=⟨(0:Int),(0:Int),(⟨#[]⟩ : ByteArray),(⟨#[]⟩ : ByteArray)⟩
def k23:Kd S23:=Kd.iso (Kd.pair (Kd.int .i64) (Kd.pair (Kd.int .i64) (Kd.pair Kd.string Kd.string))) (fun x:S23=>(x.f0,x.f1,x.f2,x.f3))
theorem k23_open {w:World} {x:S23} {cs:List Value} (h:k23.K w x cs):cs=[.int .i64 x.f0,.int .i64 x.f1,.string x.f2,.string x.f3]:=by
 obtain⟨_,_,rfl,rfl,⟨_,_,rfl,rfl,⟨_,_,rfl,rfl,rfl⟩⟩⟩:=h;exact rfl
def kv (xs:List S23) (i:Int):S23:=xs.getD i.toNat z23
theorem at_T23 {w:World} {A:Option Addr} {n:Nat} {xs:List S23} (h:Kd.C k23 w A n xs) (i:Int) (h0 : 0≤i) (h1:i < n):∃ ad ,A=some ad∧w.cell? (ad.add (i.toNat * 4))=some (.int .i64 (kv xs i).f0)∧w.cell? ⟨(ad.add (i.toNat * 4)).block,(ad.add (i.toNat * 4)).off + 1,none⟩ = some (.int .i64 (kv xs i).f1)∧w.cell? ⟨(ad.add (i.toNat * 4)).block,(ad.add (i.toNat * 4)).off + 2,none⟩ = some (.string (kv xs i).f2)∧w.cell? ⟨(ad.add (i.toNat * 4)).block,(ad.add (i.toNat * 4)).off + 3,none⟩ = some (.string (kv xs i).f3):=by
 obtain⟨ad,c,e,_,hK,hc0⟩:=Kd.C_get h z23 i h0 h1;have hc:∀ j u,c[j]? = some u→w.cell? (ad.add (i.toNat * 4 + j))=some u:=hc0;obtain rfl:=k23_open hK;exact⟨ad,e,hc 0 _ rfl,by rw[← add_field _ _ 1 (by omega)];exact hc 1 _ rfl,by rw[← add_field _ _ 2 (by omega)];exact hc 2 _ rfl,by rw[← add_field _ _ 3 (by omega)];exact hc 3 _ rfl⟩
structure S30 where
 f0:Int
 f1:Int
 f2:ByteArray
 f3:ByteArray
def z30:S30:=⟨(0:Int),(0:Int),(⟨#[]⟩ : ByteArray),(⟨#[]⟩ : ByteArray)⟩
def k30:Kd S30:=Kd.iso (Kd.pair (Kd.int .i64) (Kd.pair (Kd.int .i64) (Kd.pair Kd.string Kd.string))) (fun x:S30=>(x.f0,x.f1,x.f2,x.f3))
theorem k30_open {w:World} {x:S30} {cs:List Value} (h:k30.K w x cs):cs=[.int .i64 x.f0,.int .i64 x.f1,.string x.f2,.string x.f3]:=by
 obtain⟨_,_,rfl,rfl,⟨_,_,rfl,rfl,⟨_,_,rfl,rfl,rfl⟩⟩⟩:=h;exact rfl
theorem k30_openM {w:World} {base:Nat} {ok:Nat→Prop} {x:S30} {cs:List Value} (h:k30.M w base ok x cs):cs=[.int .i64 x.f0,.int .i64 x.f1,.string x.f2,.string x.f3]:=by
 obtain⟨_,_,rfl,rfl,⟨_,_,rfl,rfl,⟨_,_,rfl,rfl,rfl⟩⟩⟩:=h;exact rfl
theorem k30_mkM (w:World) (base:Nat) (ok:Nat→Prop) (x:S30)  : k30.M w base ok x [.int .i64 x.f0,.int .i64 x.f1,.string x.f2,.string x.f3]:=⟨[.int .i64 x.f0],[.int .i64 x.f1,.string x.f2,.string x.f3],rfl,rfl,⟨[.int .i64 x.f1],[.string x.f2,.string x.f3],rfl,rfl,⟨[.string x.f2],[.string x.f3],rfl,rfl,rfl⟩⟩⟩
def kw (xs:List S30) (i:Int):S30:=xs.getD i.toNat z30
theorem at_T30 {w:World} {A:Option Addr} {n:Nat} {xs:List S30} (h:Kd.C k30 w A n xs) (i:Int) (h0 : 0≤i) (h1:i < n):∃ ad ,A=some ad∧w.cell? (ad.add (i.toNat * 4))=some (.int .i64 (kw xs i).f0)∧w.cell? ⟨(ad.add (i.toNat * 4)).block,(ad.add (i.toNat * 4)).off + 1,none⟩ = some (.int .i64 (kw xs i).f1)∧w.cell? ⟨(ad.add (i.toNat * 4)).block,(ad.add (i.toNat * 4)).off + 2,none⟩ = some (.string (kw xs i).f2)∧w.cell? ⟨(ad.add (i.toNat * 4)).block,(ad.add (i.toNat * 4)).off + 3,none⟩ = some (.string (kw xs i).f3):=by
 obtain⟨ad,c,e,_,hK,hc0⟩:=Kd.C_get h z30 i h0 h1;have hc:∀ j u,c[j]? = some u→w.cell? (ad.add (i.toNat * 4 + j))=some u:=hc0;obtain rfl:=k30_open hK;exact⟨ad,e,hc 0 _ rfl,by rw[← add_field _ _ 1 (by omega)];exact hc 1 _ rfl,by rw[← add_field _ _ 2 (by omega)];exact hc 2 _ rfl,by rw[← add_field _ _ 3 (by omega)];exact hc 3 _ rfl⟩
theorem bx2f {W : World} {g t : Nat} {v0 v1 : Value} (h : W.heap[g]? = some (.cells #[v0, v1] t (0, 0))) : W.cell? ⟨g, 0, none⟩ = some v0 ∧ W.cell? ⟨g, 1, none⟩ = some v1 ∧ W.frozen? ⟨g, 0, none⟩ = false ∧ W.frozen? ⟨g, 1, none⟩ = false := ⟨qq h 0, qq h 1, I h 0, I h 1⟩
theorem bx4f {W : World} {g t : Nat} {v0 v1 v2 v3 : Value} (h : W.heap[g]? = some (.cells #[v0, v1, v2, v3] t (0, 0))) : W.cell? ⟨g, 0, none⟩ = some v0 ∧ W.cell? ⟨g, 1, none⟩ = some v1 ∧ W.cell? ⟨g, 2, none⟩ = some v2 ∧ W.cell? ⟨g, 3, none⟩ = some v3 ∧ W.frozen? ⟨g, 0, none⟩ = false ∧ W.frozen? ⟨g, 1, none⟩ = false ∧ W.frozen? ⟨g, 2, none⟩ = false ∧ W.frozen? ⟨g, 3, none⟩ = false := ⟨qq h 0, qq h 1, qq h 2, qq h 3, I h 0, I h 1, I h 2, I h 3⟩
theorem bx7f {W : World} {g t : Nat} {v0 v1 v2 v3 v4 v5 v6 : Value} (h : W.heap[g]? = some (.cells #[v0, v1, v2, v3, v4, v5, v6] t (0, 0))) : W.cell? ⟨g, 0, none⟩ = some v0 ∧ W.cell? ⟨g, 1, none⟩ = some v1 ∧ W.cell? ⟨g, 2, none⟩ = some v2 ∧ W.cell? ⟨g, 3, none⟩ = some v3 ∧ W.cell? ⟨g, 4, none⟩ = some v4 ∧ W.cell? ⟨g, 5, none⟩ = some v5 ∧ W.cell? ⟨g, 6, none⟩ = some v6 ∧ W.frozen? ⟨g, 0, none⟩ = false ∧ W.frozen? ⟨g, 1, none⟩ = false ∧ W.frozen? ⟨g, 2, none⟩ = false ∧ W.frozen? ⟨g, 3, none⟩ = false ∧ W.frozen? ⟨g, 4, none⟩ = false ∧ W.frozen? ⟨g, 5, none⟩ = false ∧ W.frozen? ⟨g, 6, none⟩ = false := ⟨qq h 0, qq h 1, qq h 2, qq h 3, qq h 4, qq h 5, qq h 6, I h 0, I h 1, I h 2, I h 3, I h 4, I h 5, I h 6⟩
def bytesOfS.f (s:ByteArray):Option (List Int):=if s.size≤9223372036854775807 then some (bytesOf s) else none
def BytesCalls (P:Program) (src dst:TypeId) (s:ByteArray) (w:World) (R:Ending→World→Prop):Prop :=
 ∃ v w',(convert src dst (.string s)).run P w=.ok v w'∧R (.returned v) w'
theorem BytesCalls.mono {P:Program} {src dst:TypeId} {s:ByteArray} {w:World} {R R':Ending→World→Prop} (h:BytesCalls P src dst s w R) (hr:∀ e w',R e w'→R' e w'):BytesCalls P src dst s w R' :=
 let ⟨v,w',h1,h2⟩:=h;⟨v,w',h1,hr _ _ h2⟩
theorem bytesOfS.calls (a0:ByteArray) (r:List Int) (w:World) (h:bytesOfS.f a0=some r) :
  BytesCalls Tryz.prog 9 44 a0 w fun e w'=>∃ v0_:Value,e=.returned (v0_)∧Kd.V (Kd.int .u8) 5 w' w.heap.size (fun k_=>(w.heap.size≤k_)) v0_ r∧Below w.heap.size w w':=by
 unfold bytesOfS.f at h
 by_cases hs:a0.size≤9223372036854775807
 case neg=>rw[if_neg hs] at h;cases h
 rw[if_pos hs] at h;obtain rfl:=Option.some.inj h;refine⟨_,_,print_bytes 9 44 5 Tryz.underlying9 Tryz.underlying44 Tryz.underlying5 a0 w,_,rfl,?_,kx (Below.refl _ _) (Nat.le_refl _) 5 a0⟩
 have hcell:∀ W':World,W'.heap[w.heap.size]? = (Lib.bytesWorld w 5 a0).heap[w.heap.size]? → (Kd.int .u8).C W' (some ⟨w.heap.size,0,none⟩) (bytesOf a0).length (bytesOf a0):=by
  intro W' hW
  have h0:=vq w 5 a0 hs
  have h1:ReadsInt W' .u8 (some ⟨w.heap.size,0,none⟩) (bytesOf a0).length (bytesOf a0):=by
   refine⟨rfl,by rw[bytesOf_length];exact hs,fun hp=>?_⟩;obtain⟨ad,e1,hc⟩:=h0.2.2 (by rw[bytesOf_length] at hp;exact hp);refine⟨ad,e1,fun j hj=>?_⟩;rw[← hc j (by rw[bytesOf_length] at hj;exact hj)];injection e1 with e1
   subst e1;rw[add_plain];exact World.cell?_of_block (by exact hW)
  exact Kd.C_of_reads (d:=(0:Int)) (h1:=fun _=>rfl) h1
 refine⟨some ⟨w.heap.size,0,none⟩,grownCap w a0.size 0 5,by rw[bytesOf_length],by rw[bytesOf_length];exact grownCap_ge _ _ _ _,fun W' hW=>hcell W' (hW _ (Nat.le_refl _) ?_)⟩;rw[Lib.bytesWorld_size];omega
section
variable {P:Program} {ops:Array Oper} {Q:Exit→Act→World→Prop}
theorem gate_convert {rest:List Oper} {o:Oper} {a:Act} {W:World} {src dst:TypeId} {x:Operand} (_ho:o.op=.convert src dst x) (h:wpList P ops Q (o :: rest) a W):wpList P ops Q (o :: rest) a W:=h
theorem bytesGoesL_ {rest:List Oper} {oi:Oper} {a:Act} {w:World} (N:Option Tmp) (hd:oi.dst=N) (hg:oi.guard=none) {src dst:TypeId} {x:Operand} {s:ByteArray} (hop:oi.op=.convert src dst x) (hx:a.eval x=.string s)
  (h:BytesCalls P src dst s w fun e w'=>∃ v,e=.returned v∧wpList P ops Q rest (a.put N v) w'):wpList P ops Q (oi :: rest) a w:=by
 obtain⟨v,w',hr,v',he,hw⟩:=h;injection he with he
 subst he;subst hd;refine Kd.event_run hg ?_ hw;unfold execOp;simp[hop,hx,hr]
def BoxCalls (t:TypeId) (cs:Array Value) (w:World) (R:Ending→World→Prop):Prop:=R (.returned (.pointer (some ⟨w.heap.size,0,none⟩))) (w.alloc (.cells cs t (0,0)))
theorem BoxCalls.mono {t:TypeId} {cs:Array Value} {w:World} {R R':Ending→World→Prop} (h:BoxCalls t cs w R) (hr:∀ e w',R e w'→R' e w'):BoxCalls t cs w R':=hr _ _ h
end
def qxw.f (a0:Int):Option (Bool):=if a0 ≥ 1 then(some (decide (a0 < 1073741789))) else(some false)
theorem qxw.calls (a0:Int) (r:Bool) (w:World) (h:qxw.f a0=some r) :
  Calls Tryz.prog 12 #[.int .i64 a0] w fun e w'=>e=.returned (.bool r)∧Drawn0 w w':=by
 have H:(if a0 ≥ 1 then(some (decide (a0 < 1073741789))) else(some false))=some r:=h;clear h
 by_cases c2:a0 ≥ 1
 ·rw[if_pos c2] at H;have c2b0:decide (1≤a0)=true:=decide_eq_true c2;clear c2;obtain rfl:=Option.some.inj H;go_enter Tryz.func12,Tryz.ntmps12;go_wp2;go_ret
  exact⟨by first|rfl|(simp;done)|(simp[*];done),by repeat(first|exact Drawn0.refl _|apply Drawn0.step)⟩
 ·rw[if_neg c2] at H;have c2b0:decide (1≤a0)=false:=decide_eq_false c2;clear c2;obtain rfl:=Option.some.inj H;go_enter Tryz.func12,Tryz.ntmps12;go_wp2;go_ret
  exact⟨by first|rfl|(simp;done)|(simp[*];done),by repeat(first|exact Drawn0.refl _|apply Drawn0.step)⟩
def qvk.f (a0:Int):Option (Bool):=if a0 ≥ 97 then(if a0≤122 then(some true) else(if a0 ≥ 65 then(some (decide (a0≤90))) else(some false))) else(if a0 ≥ 65 then(some (decide (a0≤90))) else(some false))
theorem qvk.calls (a0:Int) (r:Bool) (w:World) (h:qvk.f a0=some r) :
  Calls Tryz.prog 32 #[.int .u8 a0] w fun e w'=>e=.returned (.bool r)∧Drawn0 w w':=by
 unfold qvk.f at h;have H:=h;clear h
 by_cases c2:a0 ≥ 97
 ·rw[if_pos c2] at H;have c2b0:decide (97≤a0)=true:=decide_eq_true c2;clear c2
  by_cases c3:a0≤122
  ·rw[if_pos c3] at H;have c3b0:decide (a0≤122)=true:=decide_eq_true c3;clear c3;obtain rfl:=Option.some.inj H;go_enter Tryz.func32,Tryz.ntmps32;go_wp2;go_ret
   exact⟨by first|rfl|(simp;done)|(simp[*];done),by repeat(first|exact Drawn0.refl _|apply Drawn0.step)⟩
  ·rw[if_neg c3] at H;have c3b0:decide (a0≤122)=false:=decide_eq_false c3;clear c3
   by_cases c4:a0 ≥ 65
   ·rw[if_pos c4] at H;have c4b0:decide (65≤a0)=true:=decide_eq_true c4;clear c4;obtain rfl:=Option.some.inj H;go_enter Tryz.func32,Tryz.ntmps32;go_wp2;go_ret
    exact⟨by first|rfl|(simp;done)|(simp[*];done),by repeat(first|exact Drawn0.refl _|apply Drawn0.step)⟩
   ·rw[if_neg c4] at H;have c4b0:decide (65≤a0)=false:=decide_eq_false c4;clear c4;obtain rfl:=Option.some.inj H;go_enter Tryz.func32,Tryz.ntmps32;go_wp2;go_ret
    exact⟨by first|rfl|(simp;done)|(simp[*];done),by repeat(first|exact Drawn0.refl _|apply Drawn0.step)⟩
 ·rw[if_neg c2] at H;have c2b0:decide (97≤a0)=false:=decide_eq_false c2;clear c2
  by_cases c5:a0 ≥ 65
  ·rw[if_pos c5] at H;have c5b0:decide (65≤a0)=true:=decide_eq_true c5;clear c5;obtain rfl:=Option.some.inj H;go_enter Tryz.func32,Tryz.ntmps32;go_wp2;go_ret
   exact⟨by first|rfl|(simp;done)|(simp[*];done),by repeat(first|exact Drawn0.refl _|apply Drawn0.step)⟩
  ·rw[if_neg c5] at H;have c5b0:decide (65≤a0)=false:=decide_eq_false c5;clear c5;obtain rfl:=Option.some.inj H;go_enter Tryz.func32,Tryz.ntmps32;go_wp2;go_ret
   exact⟨by first|rfl|(simp;done)|(simp[*];done),by repeat(first|exact Drawn0.refl _|apply Drawn0.step)⟩
def qvj.f (a0:Int):Option (Bool):=if a0 ≥ 48 then(some (decide (a0≤57))) else(some false)
theorem qvj.calls (a0:Int) (r:Bool) (w:World) (h:qvj.f a0=some r) :
  Calls Tryz.prog 33 #[.int .u8 a0] w fun e w'=>e=.returned (.bool r)∧Drawn0 w w':=by
 have H:(if a0 ≥ 48 then(some (decide (a0≤57))) else(some false))=some r:=h;clear h
 by_cases c2:a0 ≥ 48
 ·rw[if_pos c2] at H;have c2b0:decide (48≤a0)=true:=decide_eq_true c2;clear c2;obtain rfl:=Option.some.inj H;go_enter Tryz.func33,Tryz.ntmps33;go_wp2;go_ret
  exact⟨by first|rfl|(simp;done)|(simp[*];done),by repeat(first|exact Drawn0.refl _|apply Drawn0.step)⟩
 ·rw[if_neg c2] at H;have c2b0:decide (48≤a0)=false:=decide_eq_false c2;clear c2;obtain rfl:=Option.some.inj H;go_enter Tryz.func33,Tryz.ntmps33;go_wp2;go_ret
  exact⟨by first|rfl|(simp;done)|(simp[*];done),by repeat(first|exact Drawn0.refl _|apply Drawn0.step)⟩
def zqj.l0:Nat→ByteArray→Int→Option (Bool)
 | 0,_,_=>none
 | k + 1,x0,x3=>if x3 < (x0.size:Int) then(if 0≤x3 then((qvk.f (bt x0 x3)).bind fun t101=>(if t101=true then(zqj.l0 k x0 (wrap64 (x3 + 1))) else((qvj.f (bt x0 x3)).bind fun t102=>(if t102=true then(zqj.l0 k x0 (wrap64 (x3 + 1))) else(if (bt x0 x3)=95 then(zqj.l0 k x0 (wrap64 (x3 + 1))) else(if (bt x0 x3)=45 then(zqj.l0 k x0 (wrap64 (x3 + 1))) else(if (bt x0 x3)=46 then(zqj.l0 k x0 (wrap64 (x3 + 1))) else(some false)))))))) else(none)) else(if (x0.size:Int) ≥ 1 then(some (decide ((x0.size:Int)≤40))) else(some false))
def zqj.f (k:Nat) (a0:ByteArray):Option (Bool):=zqj.l0 k a0 0
theorem zqj.calls (k:Nat) (a0:ByteArray) (r:Bool) (w:World) (h:zqj.f k a0=some r) :
  Calls Tryz.prog 13 #[.string a0] w fun e w'=>e=.returned (.bool r)∧Drawn0 w w':=by
 have H:(zqj.l0 k a0 0)=some r:=h;clear h;have H':=U.mk H;clear H;go_enter Tryz.func13,Tryz.ntmps13;go_wp2
 go_loopg [3] k (fun kq v3 w'=>∃ (x3_1:Int),v3=.int .i64 x3_1∧U (zqj.l0 kq a0 x3_1=some r)∧U (kq≤k)∧Drawn0 w w')
 case atStart=>exact⟨(0),(by first|rfl|(simp;done)|(simp[*];done)),H',⟨Nat.le_refl _⟩,by repeat(first|exact Drawn0.refl _|apply Drawn0.step)⟩
 case round =>
  clear H';try clear c1
  obtain⟨x3_1,rfl,HA,HK1,⟨m1,rfl⟩⟩:=hrel
  cases gk with
  | zero=>exact absurd HA.out (by simp[zqj.l0])
  | succ k1 =>
   have H:=HA.out;clear HA;simp only[zqj.l0] at H
   by_cases c2:x3_1 < (a0.size:Int)
   ·rw[if_pos c2] at H;have c2b0:decide (x3_1 < (a0.size:Int))=true:=decide_eq_true c2;clear c2
    by_cases c3 : 0≤x3_1
    ·rw[if_pos c3] at H;have c3b0:decide (0≤x3_1)=true:=decide_eq_true c3;clear c3;replace H:=jq8.mp H;obtain⟨t101,A50,H⟩:=H;try dsimp only at H
     have A5:=U.mk A50;clear A50
     by_cases c6:t101=true
     ·subst c6;have H1:(zqj.l0 k1 a0 (wrap64 (x3_1 + 1)))=some r:=by rw[if_pos rfl] at H;exact H
      clear H;have H:=H1;clear H1;have H':=U.mk H;clear H;have p4 : 0≤(x3_1:Int):=of_decide_eq_true (by assumption);have q4:x3_1 < (a0.size:Int):=of_decide_eq_true (by assumption);have hx4:=bt_at a0 x3_1;replace p4:=eq_true p4;replace q4:=eq_true q4;go_wp2_with (first|((with_reducible refine zx (f:=32) rfl ?_);refine goesL_ (some 13) rfl rfl Tryz.func32 (by kernel_rfl) rfl #[.int .u8 (bt a0 x3_1)] rfl (by(try simp only[jq0,jq1,jq2]);first|done|rfl|(simp only[jq3,jq4];rfl)) ?_;(with_reducible refine(qvk.calls (bt a0 x3_1) true _ A5.out).mono ?_);rintro e w' ⟨rfl,⟨nd,rfl⟩⟩;refine⟨_,rfl,?_⟩))
      go_roundg k1
      case measure=>have:=HK1.out;omega
      case rel=>exact⟨(wrap64 (x3_1 + 1)),(by first|rfl|(simp;done)|(simp[*];done)),H',⟨by have:=HK1.out;omega⟩,by repeat(first|exact Drawn0.refl _|apply Drawn0.step)⟩
     ·replace c6:=jq9.mpr c6;subst c6;have H1:((qvj.f (bt a0 x3_1)).bind fun t102=>(if t102=true then(zqj.l0 k1 a0 (wrap64 (x3_1 + 1))) else(if (bt a0 x3_1)=95 then(zqj.l0 k1 a0 (wrap64 (x3_1 + 1))) else(if (bt a0 x3_1)=45 then(zqj.l0 k1 a0 (wrap64 (x3_1 + 1))) else(if (bt a0 x3_1)=46 then(zqj.l0 k1 a0 (wrap64 (x3_1 + 1))) else(some false))))))=some r:=by rw[if_neg (show ¬ (false=true) by decide)] at H;exact H
      clear H;have H:=H1;clear H1;replace H:=jq8.mp H;obtain⟨t102,A80,H⟩:=H;try dsimp only at H
      have A8:=U.mk A80;clear A80
      by_cases c9:t102=true
      ·subst c9;have H1:(zqj.l0 k1 a0 (wrap64 (x3_1 + 1)))=some r:=by rw[if_pos rfl] at H;exact H
       clear H;have H:=H1;clear H1;have H':=U.mk H;clear H;have p4 : 0≤(x3_1:Int):=of_decide_eq_true (by assumption);have q4:x3_1 < (a0.size:Int):=of_decide_eq_true (by assumption);have hx4:=bt_at a0 x3_1;replace p4:=eq_true p4;replace q4:=eq_true q4;go_wp2_with (first|((with_reducible refine zx (f:=32) rfl ?_);refine goesL_ (some 13) rfl rfl Tryz.func32 (by kernel_rfl) rfl #[.int .u8 (bt a0 x3_1)] rfl (by(try simp only[jq0,jq1,jq2]);first|done|rfl|(simp only[jq3,jq4];rfl)) ?_;(with_reducible refine(qvk.calls (bt a0 x3_1) false _ A5.out).mono ?_);rintro e w' ⟨rfl,⟨nd,rfl⟩⟩;refine⟨_,rfl,?_⟩;have p7 : 0≤(x3_1:Int):=of_decide_eq_true (by assumption);have q7:x3_1 < (a0.size:Int):=of_decide_eq_true (by assumption);have hx7:=bt_at a0 x3_1;replace p7:=eq_true p7;replace q7:=eq_true q7)|(go_at_call 33;(with_reducible refine(qvj.calls (bt a0 x3_1) true _ A8.out).mono ?_);rintro e w' ⟨rfl,⟨nd,rfl⟩⟩))
       go_roundg k1
       case measure=>have:=HK1.out;omega
       case rel=>exact⟨(wrap64 (x3_1 + 1)),(by first|rfl|(simp;done)|(simp[*];done)),H',⟨by have:=HK1.out;omega⟩,by repeat(first|exact Drawn0.refl _|apply Drawn0.step)⟩
      ·replace c9:=jq9.mpr c9;subst c9;have H1:(if (bt a0 x3_1)=95 then(zqj.l0 k1 a0 (wrap64 (x3_1 + 1))) else(if (bt a0 x3_1)=45 then(zqj.l0 k1 a0 (wrap64 (x3_1 + 1))) else(if (bt a0 x3_1)=46 then(zqj.l0 k1 a0 (wrap64 (x3_1 + 1))) else(some false))))=some r:=by rw[if_neg (show ¬ (false=true) by decide)] at H;exact H
       clear H;have H:=H1;clear H1
       by_cases c11:(bt a0 x3_1)=95
       ·rw[if_pos c11] at H;have c11b0:((bt a0 x3_1) == 95)=true:=beq_iff_eq.mpr c11;have c11b1:((bt a0 x3_1) != 95)=false:=bne_eq_false_iff_eq.mpr c11;clear c11;have H':=U.mk H;clear H;have p4 : 0≤(x3_1:Int):=of_decide_eq_true (by assumption);have q4:x3_1 < (a0.size:Int):=of_decide_eq_true (by assumption);have hx4:=bt_at a0 x3_1;replace p4:=eq_true p4;replace q4:=eq_true q4;go_wp2_with (first|((with_reducible refine zx (f:=32) rfl ?_);refine goesL_ (some 13) rfl rfl Tryz.func32 (by kernel_rfl) rfl #[.int .u8 (bt a0 x3_1)] rfl (by(try simp only[jq0,jq1,jq2]);first|done|rfl|(simp only[jq3,jq4];rfl)) ?_;(with_reducible refine(qvk.calls (bt a0 x3_1) false _ A5.out).mono ?_);rintro e w' ⟨rfl,⟨nd,rfl⟩⟩;refine⟨_,rfl,?_⟩;have p7 : 0≤(x3_1:Int):=of_decide_eq_true (by assumption);have q7:x3_1 < (a0.size:Int):=of_decide_eq_true (by assumption);have hx7:=bt_at a0 x3_1;replace p7:=eq_true p7;replace q7:=eq_true q7)|(go_at_call 33;(with_reducible refine(qvj.calls (bt a0 x3_1) false _ A8.out).mono ?_);rintro e w' ⟨rfl,⟨nd,rfl⟩⟩;have p10 : 0≤(x3_1:Int):=of_decide_eq_true (by assumption);have q10:x3_1 < (a0.size:Int):=of_decide_eq_true (by assumption);have hx10:=bt_at a0 x3_1;replace p10:=eq_true p10;replace q10:=eq_true q10))
        go_roundg k1
        case measure=>have:=HK1.out;omega
        case rel=>exact⟨(wrap64 (x3_1 + 1)),(by first|rfl|(simp;done)|(simp[*];done)),H',⟨by have:=HK1.out;omega⟩,by repeat(first|exact Drawn0.refl _|apply Drawn0.step)⟩
       ·rw[if_neg c11] at H;have c11b0:((bt a0 x3_1) == 95)=false:=beq_eq_false_iff_ne.mpr c11;have c11b1:((bt a0 x3_1) != 95)=true:=bne_iff_ne.mpr c11
        by_cases c13:(bt a0 x3_1)=45
        ·rw[if_pos c13] at H;have c13b0:((bt a0 x3_1) == 45)=true:=beq_iff_eq.mpr c13;have c13b1:((bt a0 x3_1) != 45)=false:=bne_eq_false_iff_eq.mpr c13;clear c13;have H':=U.mk H;clear H;have p4 : 0≤(x3_1:Int):=of_decide_eq_true (by assumption);have q4:x3_1 < (a0.size:Int):=of_decide_eq_true (by assumption);have hx4:=bt_at a0 x3_1;replace p4:=eq_true p4;replace q4:=eq_true q4;go_wp2_with (first|((with_reducible refine zx (f:=32) rfl ?_);refine goesL_ (some 13) rfl rfl Tryz.func32 (by kernel_rfl) rfl #[.int .u8 (bt a0 x3_1)] rfl (by(try simp only[jq0,jq1,jq2]);first|done|rfl|(simp only[jq3,jq4];rfl)) ?_;(with_reducible refine(qvk.calls (bt a0 x3_1) false _ A5.out).mono ?_);rintro e w' ⟨rfl,⟨nd,rfl⟩⟩;refine⟨_,rfl,?_⟩;have p7 : 0≤(x3_1:Int):=of_decide_eq_true (by assumption);have q7:x3_1 < (a0.size:Int):=of_decide_eq_true (by assumption);have hx7:=bt_at a0 x3_1;replace p7:=eq_true p7;replace q7:=eq_true q7)|(go_at_call 33;(with_reducible refine(qvj.calls (bt a0 x3_1) false _ A8.out).mono ?_);rintro e w' ⟨rfl,⟨nd,rfl⟩⟩;have p10 : 0≤(x3_1:Int):=of_decide_eq_true (by assumption);have q10:x3_1 < (a0.size:Int):=of_decide_eq_true (by assumption);have hx10:=bt_at a0 x3_1;replace p10:=eq_true p10;replace q10:=eq_true q10;have p12 : 0≤(x3_1:Int):=of_decide_eq_true (by assumption);have q12:x3_1 < (a0.size:Int):=of_decide_eq_true (by assumption);have hx12:=bt_at a0 x3_1;replace p12:=eq_true p12;replace q12:=eq_true q12))
         go_roundg k1
         case measure=>have:=HK1.out;omega
         case rel=>exact⟨(wrap64 (x3_1 + 1)),(by first|rfl|(simp;done)|(simp[*];done)),H',⟨by have:=HK1.out;omega⟩,by repeat(first|exact Drawn0.refl _|apply Drawn0.step)⟩
        ·rw[if_neg c13] at H;have c13b0:((bt a0 x3_1) == 45)=false:=beq_eq_false_iff_ne.mpr c13;have c13b1:((bt a0 x3_1) != 45)=true:=bne_iff_ne.mpr c13
         by_cases c15:(bt a0 x3_1)=46
         ·rw[if_pos c15] at H;have c15b0:((bt a0 x3_1) == 46)=true:=beq_iff_eq.mpr c15;have c15b1:((bt a0 x3_1) != 46)=false:=bne_eq_false_iff_eq.mpr c15;clear c15;have H':=U.mk H;clear H;have p4 : 0≤(x3_1:Int):=of_decide_eq_true (by assumption);have q4:x3_1 < (a0.size:Int):=of_decide_eq_true (by assumption);have hx4:=bt_at a0 x3_1;replace p4:=eq_true p4;replace q4:=eq_true q4;go_wp2_with (first|((with_reducible refine zx (f:=32) rfl ?_);refine goesL_ (some 13) rfl rfl Tryz.func32 (by kernel_rfl) rfl #[.int .u8 (bt a0 x3_1)] rfl (by(try simp only[jq0,jq1,jq2]);first|done|rfl|(simp only[jq3,jq4];rfl)) ?_;(with_reducible refine(qvk.calls (bt a0 x3_1) false _ A5.out).mono ?_);rintro e w' ⟨rfl,⟨nd,rfl⟩⟩;refine⟨_,rfl,?_⟩;have p7 : 0≤(x3_1:Int):=of_decide_eq_true (by assumption);have q7:x3_1 < (a0.size:Int):=of_decide_eq_true (by assumption);have hx7:=bt_at a0 x3_1;replace p7:=eq_true p7;replace q7:=eq_true q7)|(go_at_call 33;(with_reducible refine(qvj.calls (bt a0 x3_1) false _ A8.out).mono ?_);rintro e w' ⟨rfl,⟨nd,rfl⟩⟩;have p10 : 0≤(x3_1:Int):=of_decide_eq_true (by assumption);have q10:x3_1 < (a0.size:Int):=of_decide_eq_true (by assumption);have hx10:=bt_at a0 x3_1;replace p10:=eq_true p10;replace q10:=eq_true q10;have p12 : 0≤(x3_1:Int):=of_decide_eq_true (by assumption);have q12:x3_1 < (a0.size:Int):=of_decide_eq_true (by assumption);have hx12:=bt_at a0 x3_1;replace p12:=eq_true p12;replace q12:=eq_true q12;have p14 : 0≤(x3_1:Int):=of_decide_eq_true (by assumption);have q14:x3_1 < (a0.size:Int):=of_decide_eq_true (by assumption);have hx14:=bt_at a0 x3_1;replace p14:=eq_true p14;replace q14:=eq_true q14))
          go_roundg k1
          case measure=>have:=HK1.out;omega
          case rel=>exact⟨(wrap64 (x3_1 + 1)),(by first|rfl|(simp;done)|(simp[*];done)),H',⟨by have:=HK1.out;omega⟩,by repeat(first|exact Drawn0.refl _|apply Drawn0.step)⟩
         ·rw[if_neg c15] at H;have c15b0:((bt a0 x3_1) == 46)=false:=beq_eq_false_iff_ne.mpr c15;have c15b1:((bt a0 x3_1) != 46)=true:=bne_iff_ne.mpr c15;obtain rfl:=Option.some.inj H;have p4 : 0≤(x3_1:Int):=of_decide_eq_true (by assumption);have q4:x3_1 < (a0.size:Int):=of_decide_eq_true (by assumption);have hx4:=bt_at a0 x3_1;replace p4:=eq_true p4;replace q4:=eq_true q4;go_wp2_with (first|((with_reducible refine zx (f:=32) rfl ?_);refine goesL_ (some 13) rfl rfl Tryz.func32 (by kernel_rfl) rfl #[.int .u8 (bt a0 x3_1)] rfl (by(try simp only[jq0,jq1,jq2]);first|done|rfl|(simp only[jq3,jq4];rfl)) ?_;(with_reducible refine(qvk.calls (bt a0 x3_1) false _ A5.out).mono ?_);rintro e w' ⟨rfl,⟨nd,rfl⟩⟩;refine⟨_,rfl,?_⟩;have p7 : 0≤(x3_1:Int):=of_decide_eq_true (by assumption);have q7:x3_1 < (a0.size:Int):=of_decide_eq_true (by assumption);have hx7:=bt_at a0 x3_1;replace p7:=eq_true p7;replace q7:=eq_true q7)|(go_at_call 33;(with_reducible refine(qvj.calls (bt a0 x3_1) false _ A8.out).mono ?_);rintro e w' ⟨rfl,⟨nd,rfl⟩⟩;have p10 : 0≤(x3_1:Int):=of_decide_eq_true (by assumption);have q10:x3_1 < (a0.size:Int):=of_decide_eq_true (by assumption);have hx10:=bt_at a0 x3_1;replace p10:=eq_true p10;replace q10:=eq_true q10;have p12 : 0≤(x3_1:Int):=of_decide_eq_true (by assumption);have q12:x3_1 < (a0.size:Int):=of_decide_eq_true (by assumption);have hx12:=bt_at a0 x3_1;replace p12:=eq_true p12;replace q12:=eq_true q12;have p14 : 0≤(x3_1:Int):=of_decide_eq_true (by assumption);have q14:x3_1 < (a0.size:Int):=of_decide_eq_true (by assumption);have hx14:=bt_at a0 x3_1;replace p14:=eq_true p14;replace q14:=eq_true q14))
          go_ret
          exact⟨by first|rfl|(simp;done)|(simp[*];done),by repeat(first|exact Drawn0.refl _|apply Drawn0.step)⟩
    ·rw[if_neg c3] at H;exact absurd H (by simp)
   ·rw[if_neg c2] at H;have c2b0:decide (x3_1 < (a0.size:Int))=false:=decide_eq_false c2;clear c2
    by_cases c16:(a0.size:Int) ≥ 1
    ·rw[if_pos c16] at H;have c16b0:decide (1≤(a0.size:Int))=true:=decide_eq_true c16;have c16b1:decide (1≤a0.size)=true:=decide_eq_true (by omega);clear c16;obtain rfl:=Option.some.inj H;go_wp2;go_ret
     exact⟨by first|rfl|(simp;done)|(simp[*];done),by repeat(first|exact Drawn0.refl _|apply Drawn0.step)⟩
    ·rw[if_neg c16] at H;have c16b0:decide (1≤(a0.size:Int))=false:=decide_eq_false c16;have c16b1:decide (1≤a0.size)=false:=decide_eq_false (by omega);clear c16;obtain rfl:=Option.some.inj H;go_wp2;go_ret
     exact⟨by first|rfl|(simp;done)|(simp[*];done),by repeat(first|exact Drawn0.refl _|apply Drawn0.step)⟩
mutual
def qkz.j0:Nat→ByteArray→Bool→Option (Bool)
 | 0,_,_=>none
 | k + 1,x0,x16=>if x16=true then(some false) else(qkz.l0 k x0 0)
def qkz.l0:Nat→ByteArray→Int→Option (Bool)
 | 0,_,_=>none
 | k + 1,x0,x3=>if x3 < (x0.size:Int) then(if 0≤x3 then((qvk.f (bt x0 x3)).bind fun t102=>(if t102=true then(qkz.l0 k x0 (wrap64 (x3 + 1))) else((qvj.f (bt x0 x3)).bind fun t103=>(if t103=true then(qkz.l0 k x0 (wrap64 (x3 + 1))) else(if (bt x0 x3)=95 then(qkz.l0 k x0 (wrap64 (x3 + 1))) else(some false)))))) else(none)) else(some true)
end
def qkz.f (k:Nat) (a0:ByteArray):Option (Bool):=if (a0.size:Int) < 1 then(qkz.j0 k a0 true) else(if (a0.size:Int) > 30 then(qkz.j0 k a0 true) else(if 0 < (a0.size:Int) then((qvj.f (bt a0 0)).bind fun t101=>(qkz.j0 k a0 t101)) else(none)))
theorem qkz.calls (k:Nat) (a0:ByteArray) (r:Bool) (w:World) (h:qkz.f k a0=some r) :
  Calls Tryz.prog 54 #[.string a0] w fun e w'=>e=.returned (.bool r)∧Drawn0 w w':=by
 unfold qkz.f at h;have H:=h;clear h;have HC2:=U.mk H;clear H;go_enter Tryz.func54,Tryz.ntmps54;go_upto_region 1 with (fail)
 go_cut [16] (fun v16 wc=>∃ (kq:Nat) (x16_1:Bool),v16=.bool x16_1∧U (qkz.j0 kq a0 x16_1=some r)∧U (kq≤k)∧Drawn0 w wc)
 case first =>
  have H:=HC2.out;clear HC2
  by_cases c3:(a0.size:Int) < 1
  ·rw[if_pos c3] at H;have c3b0:decide ((a0.size:Int) < 1)=true:=decide_eq_true c3;have c3b1:decide (a0.size < 1)=true:=decide_eq_true (by omega);clear c3
   (first|rw[c3b0]|(simp only[i64_w,i32_w];rw[c3b0])|skip)
   have H':=U.mk H;clear H;go_wp2;go_meet
   case rel=>exact⟨_,(true),(by first|rfl|(simp;done)|(simp[*];done)),H',⟨by first|omega|exact Nat.le_refl _⟩,by repeat(first|exact Drawn0.refl _|apply Drawn0.step)⟩
  ·rw[if_neg c3] at H;have c3b0:decide ((a0.size:Int) < 1)=false:=decide_eq_false c3;have c3b1:decide (a0.size < 1)=false:=decide_eq_false (by omega);clear c3
   (first|rw[c3b0]|(simp only[i64_w,i32_w];rw[c3b0])|skip)
   by_cases c4:(a0.size:Int) > 30
   ·rw[if_pos c4] at H;have c4b0:decide (30 < (a0.size:Int))=true:=decide_eq_true c4;have c4b1:decide (30 < a0.size)=true:=decide_eq_true (by omega);clear c4;have H':=U.mk H;clear H;go_wp2;go_meet
    case rel=>exact⟨_,(true),(by first|rfl|(simp;done)|(simp[*];done)),H',⟨by first|omega|exact Nat.le_refl _⟩,by repeat(first|exact Drawn0.refl _|apply Drawn0.step)⟩
   ·rw[if_neg c4] at H;have c4b0:decide (30 < (a0.size:Int))=false:=decide_eq_false c4;have c4b1:decide (30 < a0.size)=false:=decide_eq_false (by omega);clear c4
    by_cases c5 : 0 < (a0.size:Int)
    ·rw[if_pos c5] at H;have c5b0:decide (0 < (a0.size:Int))=true:=decide_eq_true c5;have c5b1:decide (0 < a0.size)=true:=decide_eq_true (by omega);clear c5;replace H:=jq8.mp H;obtain⟨t101,A70,H⟩:=H;replace H:(qkz.j0 k a0 t101)=some r:=H;have A7:=U.mk A70;clear A70;have H':=U.mk H;clear H;have p6 : 0≤(0:Int):=(by omega);have q6 : 0 < a0.size:=(by have:(0:Int) < (a0.size:Int):=of_decide_eq_true (by assumption);omega);have hx6:∀ h : 0 < a0.size,((a0[0]'h).toNat:Int)=bt a0 0:=bt_at a0 0;clear p6;have qi6:(0 < (a0.size:Int))=True:=eq_true (of_decide_eq_true (by assumption));replace q6:=eq_true q6;go_wp2_with (first|(go_at_call 33;(with_reducible refine(qvj.calls (bt a0 0) t101 _ A7.out).mono ?_);rintro e w' ⟨rfl,⟨nd,rfl⟩⟩))
     go_meet
     case rel=>exact⟨_,(t101),(by first|rfl|(simp;done)|(simp[*];done)),H',⟨by first|omega|exact Nat.le_refl _⟩,by repeat(first|exact Drawn0.refl _|apply Drawn0.step)⟩
    ·rw[if_neg c5] at H;exact absurd H (by simp)
 case rest =>
  clear HC2;try clear p2
  try clear c3
  try clear c3b0
  try clear c3b1
  try clear c4
  try clear c4b0
  try clear c4b1
  try clear c5
  try clear c5b0
  try clear c5b1
  try clear p6 p6
  try clear q6 q6
  try clear hx6
  try clear qi6
  obtain⟨kq,x16_1,rfl,HA,HJ1,⟨mc1,rfl⟩⟩:=hcut
  cases kq with
  | zero=>exact absurd HA.out (by simp[qkz.j0])
  | succ kj1 =>
   have H:=HA.out;clear HA;simp only[qkz.j0] at H
   by_cases c8:x16_1=true
   ·subst c8;have H1:(some false)=some r:=by rw[if_pos rfl] at H;exact H
    clear H;have H:=H1;clear H1;obtain rfl:=Option.some.inj H;go_wp2;go_ret
    exact⟨by first|rfl|(simp;done)|(simp[*];done),by repeat(first|exact Drawn0.refl _|apply Drawn0.step)⟩
   ·replace c8:=jq9.mpr c8;subst c8;have H1:(qkz.l0 kj1 a0 0)=some r:=by rw[if_neg (show ¬ (false=true) by decide)] at H;exact H
    clear H;have H:=H1;clear H1;have H':=U.mk H;clear H;go_wp2
    go_loopg [3] kj1 (fun kq v3 w'=>∃ (x3_2:Int),v3=.int .i64 x3_2∧U (qkz.l0 kq a0 x3_2=some r)∧U (kq≤kj1)∧Drawn0 w w')
    case atStart=>exact⟨(0),(by first|rfl|(simp;done)|(simp[*];done)),H',⟨Nat.le_refl _⟩,by repeat(first|exact Drawn0.refl _|apply Drawn0.step)⟩
    case round =>
     clear H';try clear c1
     try clear p2 p2
     try clear c3
     try clear c3b0
     try clear c3b1
     try clear c4
     try clear c4b0
     try clear c4b1
     try clear c5
     try clear c5b0
     try clear c5b1
     try clear p6 p6
     try clear q6 q6
     try clear hx6
     try clear qi6
     try clear c8
     obtain⟨x3_2,rfl,HA,HK2,⟨m2,rfl⟩⟩:=hrel
     cases gk with
     | zero=>exact absurd HA.out (by simp[qkz.l0])
     | succ k2 =>
      have H:=HA.out;clear HA;simp only[qkz.l0] at H
      by_cases c9:x3_2 < (a0.size:Int)
      ·rw[if_pos c9] at H;have c9b0:decide (x3_2 < (a0.size:Int))=true:=decide_eq_true c9;clear c9
       by_cases c10 : 0≤x3_2
       ·rw[if_pos c10] at H;have c10b0:decide (0≤x3_2)=true:=decide_eq_true c10;clear c10;replace H:=jq8.mp H;obtain⟨t102,A120,H⟩:=H;try dsimp only at H
        have A12:=U.mk A120;clear A120
        by_cases c13:t102=true
        ·subst c13;have H1:(qkz.l0 k2 a0 (wrap64 (x3_2 + 1)))=some r:=by rw[if_pos rfl] at H;exact H
         clear H;have H:=H1;clear H1;have H':=U.mk H;clear H;have p11 : 0≤(x3_2:Int):=of_decide_eq_true (by assumption);have q11:x3_2 < (a0.size:Int):=of_decide_eq_true (by assumption);have hx11:=bt_at a0 x3_2;replace p11:=eq_true p11;replace q11:=eq_true q11;go_wp2_with (first|((with_reducible refine zx (f:=32) rfl ?_);refine goesL_ (some 26) rfl rfl Tryz.func32 (by kernel_rfl) rfl #[.int .u8 (bt a0 x3_2)] rfl (by(try simp only[jq0,jq1,jq2]);first|done|rfl|(simp only[jq3,jq4];rfl)) ?_;(with_reducible refine(qvk.calls (bt a0 x3_2) true _ A12.out).mono ?_);rintro e w' ⟨rfl,⟨nd,rfl⟩⟩;refine⟨_,rfl,?_⟩))
         go_roundg k2
         case measure=>have:=HJ1.out;have:=HK2.out;omega
         case rel=>exact⟨(wrap64 (x3_2 + 1)),(by first|rfl|(simp;done)|(simp[*];done)),H',⟨by have:=HJ1.out;have:=HK2.out;omega⟩,by repeat(first|exact Drawn0.refl _|apply Drawn0.step)⟩
        ·replace c13:=jq9.mpr c13;subst c13;have H1:((qvj.f (bt a0 x3_2)).bind fun t103=>(if t103=true then(qkz.l0 k2 a0 (wrap64 (x3_2 + 1))) else(if (bt a0 x3_2)=95 then(qkz.l0 k2 a0 (wrap64 (x3_2 + 1))) else(some false))))=some r:=by rw[if_neg (show ¬ (false=true) by decide)] at H;exact H
         clear H;have H:=H1;clear H1;replace H:=jq8.mp H;obtain⟨t103,A150,H⟩:=H;try dsimp only at H
         have A15:=U.mk A150;clear A150
         by_cases c16:t103=true
         ·subst c16;have H1:(qkz.l0 k2 a0 (wrap64 (x3_2 + 1)))=some r:=by rw[if_pos rfl] at H;exact H
          clear H;have H:=H1;clear H1;have H':=U.mk H;clear H;have p11 : 0≤(x3_2:Int):=of_decide_eq_true (by assumption);have q11:x3_2 < (a0.size:Int):=of_decide_eq_true (by assumption);have hx11:=bt_at a0 x3_2;replace p11:=eq_true p11;replace q11:=eq_true q11;go_wp2_with (first|((with_reducible refine zx (f:=32) rfl ?_);refine goesL_ (some 26) rfl rfl Tryz.func32 (by kernel_rfl) rfl #[.int .u8 (bt a0 x3_2)] rfl (by(try simp only[jq0,jq1,jq2]);first|done|rfl|(simp only[jq3,jq4];rfl)) ?_;(with_reducible refine(qvk.calls (bt a0 x3_2) false _ A12.out).mono ?_);rintro e w' ⟨rfl,⟨nd,rfl⟩⟩;refine⟨_,rfl,?_⟩;have p14 : 0≤(x3_2:Int):=of_decide_eq_true (by assumption);have q14:x3_2 < (a0.size:Int):=of_decide_eq_true (by assumption);have hx14:=bt_at a0 x3_2;replace p14:=eq_true p14;replace q14:=eq_true q14)|(go_at_call 33;(with_reducible refine(qvj.calls (bt a0 x3_2) true _ A15.out).mono ?_);rintro e w' ⟨rfl,⟨nd,rfl⟩⟩))
          go_roundg k2
          case measure=>have:=HJ1.out;have:=HK2.out;omega
          case rel=>exact⟨(wrap64 (x3_2 + 1)),(by first|rfl|(simp;done)|(simp[*];done)),H',⟨by have:=HJ1.out;have:=HK2.out;omega⟩,by repeat(first|exact Drawn0.refl _|apply Drawn0.step)⟩
         ·replace c16:=jq9.mpr c16;subst c16;have H1:(if (bt a0 x3_2)=95 then(qkz.l0 k2 a0 (wrap64 (x3_2 + 1))) else(some false))=some r:=by rw[if_neg (show ¬ (false=true) by decide)] at H;exact H
          clear H;have H:=H1;clear H1
          by_cases c18:(bt a0 x3_2)=95
          ·rw[if_pos c18] at H;have c18b0:((bt a0 x3_2) == 95)=true:=beq_iff_eq.mpr c18;have c18b1:((bt a0 x3_2) != 95)=false:=bne_eq_false_iff_eq.mpr c18;clear c18;have H':=U.mk H;clear H;have p11 : 0≤(x3_2:Int):=of_decide_eq_true (by assumption);have q11:x3_2 < (a0.size:Int):=of_decide_eq_true (by assumption);have hx11:=bt_at a0 x3_2;replace p11:=eq_true p11;replace q11:=eq_true q11;go_wp2_with (first|((with_reducible refine zx (f:=32) rfl ?_);refine goesL_ (some 26) rfl rfl Tryz.func32 (by kernel_rfl) rfl #[.int .u8 (bt a0 x3_2)] rfl (by(try simp only[jq0,jq1,jq2]);first|done|rfl|(simp only[jq3,jq4];rfl)) ?_;(with_reducible refine(qvk.calls (bt a0 x3_2) false _ A12.out).mono ?_);rintro e w' ⟨rfl,⟨nd,rfl⟩⟩;refine⟨_,rfl,?_⟩;have p14 : 0≤(x3_2:Int):=of_decide_eq_true (by assumption);have q14:x3_2 < (a0.size:Int):=of_decide_eq_true (by assumption);have hx14:=bt_at a0 x3_2;replace p14:=eq_true p14;replace q14:=eq_true q14)|(go_at_call 33;(with_reducible refine(qvj.calls (bt a0 x3_2) false _ A15.out).mono ?_);rintro e w' ⟨rfl,⟨nd,rfl⟩⟩;have p17 : 0≤(x3_2:Int):=of_decide_eq_true (by assumption);have q17:x3_2 < (a0.size:Int):=of_decide_eq_true (by assumption);have hx17:=bt_at a0 x3_2;replace p17:=eq_true p17;replace q17:=eq_true q17))
           go_roundg k2
           case measure=>have:=HJ1.out;have:=HK2.out;omega
           case rel=>exact⟨(wrap64 (x3_2 + 1)),(by first|rfl|(simp;done)|(simp[*];done)),H',⟨by have:=HJ1.out;have:=HK2.out;omega⟩,by repeat(first|exact Drawn0.refl _|apply Drawn0.step)⟩
          ·rw[if_neg c18] at H;have c18b0:((bt a0 x3_2) == 95)=false:=beq_eq_false_iff_ne.mpr c18;have c18b1:((bt a0 x3_2) != 95)=true:=bne_iff_ne.mpr c18;obtain rfl:=Option.some.inj H;have p11 : 0≤(x3_2:Int):=of_decide_eq_true (by assumption);have q11:x3_2 < (a0.size:Int):=of_decide_eq_true (by assumption);have hx11:=bt_at a0 x3_2;replace p11:=eq_true p11;replace q11:=eq_true q11;go_wp2_with (first|((with_reducible refine zx (f:=32) rfl ?_);refine goesL_ (some 26) rfl rfl Tryz.func32 (by kernel_rfl) rfl #[.int .u8 (bt a0 x3_2)] rfl (by(try simp only[jq0,jq1,jq2]);first|done|rfl|(simp only[jq3,jq4];rfl)) ?_;(with_reducible refine(qvk.calls (bt a0 x3_2) false _ A12.out).mono ?_);rintro e w' ⟨rfl,⟨nd,rfl⟩⟩;refine⟨_,rfl,?_⟩;have p14 : 0≤(x3_2:Int):=of_decide_eq_true (by assumption);have q14:x3_2 < (a0.size:Int):=of_decide_eq_true (by assumption);have hx14:=bt_at a0 x3_2;replace p14:=eq_true p14;replace q14:=eq_true q14)|(go_at_call 33;(with_reducible refine(qvj.calls (bt a0 x3_2) false _ A15.out).mono ?_);rintro e w' ⟨rfl,⟨nd,rfl⟩⟩;have p17 : 0≤(x3_2:Int):=of_decide_eq_true (by assumption);have q17:x3_2 < (a0.size:Int):=of_decide_eq_true (by assumption);have hx17:=bt_at a0 x3_2;replace p17:=eq_true p17;replace q17:=eq_true q17))
           go_ret
           exact⟨by first|rfl|(simp;done)|(simp[*];done),by repeat(first|exact Drawn0.refl _|apply Drawn0.step)⟩
       ·rw[if_neg c10] at H;exact absurd H (by simp)
      ·rw[if_neg c9] at H;have c9b0:decide (x3_2 < (a0.size:Int))=false:=decide_eq_false c9;clear c9;obtain rfl:=Option.some.inj H;go_wp2;go_ret
       exact⟨by first|rfl|(simp;done)|(simp[*];done),by repeat(first|exact Drawn0.refl _|apply Drawn0.step)⟩
end Go.Proofs.YtkcdefnpbnbaeaaGreatDoor.Pr
namespace Go.Proofs.YtkcdefnpbnbaeaaGreatDoor.Pr
open Go.RowKit Go.Proofs.YtkcdefnpbnbaeaaGreatDoorW.PrintWords Go.Proofs.YtkcdefnpbnbaeaaGreatDoorW.PrintLast Go.Proofs.YtkcdefnpbnbaeaaGreatDoorW.PrintMore
attribute [local go_sem] max2_int min2_int max_two min_two max_three min_three max_four min_four
set_option linter.unusedVariables false
set_option linter.unusedSimpArgs false
def qvw.l0:Nat→Int→Int→Int→Option (Int)
 | 0,_,_,_=>none
 | k + 1,x0,x3,x4=>if x4 < x0 then(qvw.l0 k x0 (wrap64 (x3 * 2)) (wrap64 (x4 + 1))) else(some x3)
def qvw.f (k:Nat) (a0:Int):Option (Int):=qvw.l0 k a0 1 0
theorem qvw.calls (k:Nat) (a0:Int) (r:Int) (w:World) (h:qvw.f k a0=some r) :
  Calls Tryz.prog 80 #[.int .i64 a0] w fun e w'=>e=.returned (.int .i64 r)∧Drawn0 w w':=by
 have H:(qvw.l0 k a0 1 0)=some r:=h;clear h;have H':=U.mk H;clear H;go_enter Tryz.func80,Tryz.ntmps80;go_wp2
 go_loopg [3,4] k (fun kq v3 v4 w'=>∃ (x3_1:Int) (x4_1:Int),v3=.int .i64 x3_1∧v4=.int .i64 x4_1∧U (qvw.l0 kq a0 x3_1 x4_1=some r)∧U (kq≤k)∧Drawn0 w w')
 case atStart=>exact⟨(1),(0),(by first|rfl|(simp;done)|(simp[*];done)),(by first|rfl|(simp;done)|(simp[*];done)),H',⟨Nat.le_refl _⟩,by repeat(first|exact Drawn0.refl _|apply Drawn0.step)⟩
 case round =>
  clear H';obtain⟨x3_1,x4_1,rfl,rfl,HA,HK1,⟨m1,rfl⟩⟩:=hrel
  cases gk with
  | zero=>exact absurd HA.out (by simp[qvw.l0])
  | succ k1 =>
   have H:=HA.out;clear HA;simp only[qvw.l0] at H
   by_cases c2:x4_1 < a0
   ·rw[if_pos c2] at H;have c2b0:decide (x4_1 < a0)=true:=decide_eq_true c2;clear c2;have H':=U.mk H;clear H;go_wp2;go_roundg k1
    case measure=>have:=HK1.out;omega
    case rel=>exact⟨(wrap64 (x3_1 * 2)),(wrap64 (x4_1 + 1)),(by first|rfl|(simp;done)|(simp[*];done)),(by first|rfl|(simp;done)|(simp[*];done)),H',⟨by have:=HK1.out;omega⟩,by repeat(first|exact Drawn0.refl _|apply Drawn0.step)⟩
   ·rw[if_neg c2] at H;have c2b0:decide (x4_1 < a0)=false:=decide_eq_false c2;clear c2;obtain rfl:=Option.some.inj H;go_wp2;go_ret
    exact⟨by first|rfl|(simp;done)|(simp[*];done),by repeat(first|exact Drawn0.refl _|apply Drawn0.step)⟩
end Go.Proofs.YtkcdefnpbnbaeaaGreatDoor.Pr
namespace Go.Proofs.YtkcdefnpbnbaeaaGreatDoor.Pr
open Go.RowKit Go.Proofs.YtkcdefnpbnbaeaaGreatDoorW.PrintWords Go.Proofs.YtkcdefnpbnbaeaaGreatDoorW.PrintLast Go.Proofs.YtkcdefnpbnbaeaaGreatDoorW.PrintMore
attribute [local go_sem] max2_int min2_int max_two min_two max_three min_three max_four min_four
set_option linter.unusedVariables false
set_option linter.unusedSimpArgs false
def qkx.f (k:Nat) (a0_0:Int) (a0_1:Int) (a0_2:ByteArray) (a0_3:ByteArray):Option (Int × Int):=(qvw.f k (wrap64 (32 - (Int.tmod a0_1 64)))).bind fun t102=>(some (wrap64 (Int.tdiv a0_1 64),t102))
theorem qkx.calls (k:Nat) (a0_0:Int) (a0_1:Int) (a0_2:ByteArray) (a0_3:ByteArray) (r1:Int) (r2:Int) (w:World) (h:qkx.f k a0_0 a0_1 a0_2 a0_3=some (r1,r2)) :
  Calls Tryz.prog 59 #[.agg #[.int .i64 a0_0,.int .i64 a0_1,.string a0_2,.string a0_3]] w fun e w'=>e=.returned (.tuple #[.int .i64 r1,.int .i64 r2])∧Below w.heap.size w w':=by
 have hu30:=Tryz.underlying30;have HB:=U.mk (Below.refl w.heap.size w);unfold qkx.f at h;have H:=h;clear h;replace H:=jq8.mp H;obtain⟨t102,A20,H⟩:=H;try dsimp only at H
 have A2:=U.mk A20;clear A20;simp only[Option.some.injEq,Prod.mk.injEq] at H;obtain⟨rfl,rfl⟩:=H;go_enter Tryz.func59,Tryz.ntmps59;go_wp2_with (first|((with_reducible refine gate_dst (N:=1) rfl ?_);refine box_event ?hg (N:=1) ?hd (cs:=#[.int .i64 a0_0,.int .i64 a0_1,.string a0_2,.string a0_3]) (t:=30) ?hr ?_;(case hd=>rfl);(case hg=>rfl);(case hr=>first|(go_simp;done)|(go_simp;rfl));intro gb101 hg w3 hbox hb;have BK101:=U.mk (hbox);have GW101:=U.mk ((by rw[hg];exact(zq (by solve_by_elim only[HB.out,L,O,J])):w.heap.size≤gb101));have GE101:=GW101;replace HB:=U.mk (qx (by solve_by_elim only[HB.out,L,O,J]) hb);clear hb hbox hg;obtain⟨y4_0,y4_1,y4_2,y4_3,z4_0,z4_1,z4_2,z4_3⟩:=bx4f BK101.out)|(go_at_call 80;(with_reducible refine(qvw.calls k (wrap64 (32 - (Int.tmod a0_1 64))) t102 _ A2.out).mono ?_);rintro e w' ⟨rfl,⟨nd,rfl⟩⟩;(try first|exact⟨rfl,_,World.drewN_drewN _ _ _⟩|exact⟨rfl,_,Eq.trans (World.drewN_drewN _ _ _) (congrArg (World.drewN _) (Nat.add_assoc _ _ _))⟩)))
 repeat(go_quiet (first|((with_reducible refine gate_dst (N:=1) rfl ?_);refine box_event ?hg (N:=1) ?hd (cs:=#[.int .i64 a0_0,.int .i64 a0_1,.string a0_2,.string a0_3]) (t:=30) ?hr ?_;(case hd=>rfl);(case hg=>rfl);(case hr=>first|(go_simp;done)|(go_simp;rfl));intro gb101 hg w3 hbox hb;have BK101:=U.mk (hbox);have GW101:=U.mk ((by rw[hg];exact(zq (by solve_by_elim only[HB.out,L,O,J])):w.heap.size≤gb101));have GE101:=GW101;replace HB:=U.mk (qx (by solve_by_elim only[HB.out,L,O,J]) hb);clear hb hbox hg;obtain⟨y4_0,y4_1,y4_2,y4_3,z4_0,z4_1,z4_2,z4_3⟩:=bx4f BK101.out)|(go_at_call 80;(with_reducible refine(qvw.calls k (wrap64 (32 - (Int.tmod a0_1 64))) t102 _ A2.out).mono ?_);rintro e w' ⟨rfl,⟨nd,rfl⟩⟩;(try first|exact⟨rfl,_,World.drewN_drewN _ _ _⟩|exact⟨rfl,_,Eq.trans (World.drewN_drewN _ _ _) (congrArg (World.drewN _) (Nat.add_assoc _ _ _))⟩)));try go_wp2_with (first|((with_reducible refine gate_dst (N:=1) rfl ?_);refine box_event ?hg (N:=1) ?hd (cs:=#[.int .i64 a0_0,.int .i64 a0_1,.string a0_2,.string a0_3]) (t:=30) ?hr ?_;(case hd=>rfl);(case hg=>rfl);(case hr=>first|(go_simp;done)|(go_simp;rfl));intro gb101 hg w3 hbox hb;have n0_:=U.mk (qx (by solve_by_elim only[HB.out,L,O,J]) hb);have n1_:=U.mk (hbox);have n2_:=U.mk ((by rw[hg];exact(zq (by solve_by_elim only[HB.out,L,O,J])):w.heap.size≤gb101));have n3_:=U.mk ((by rw[hg];exact(zq (by solve_by_elim only[HB.out,L,O,J])):w.heap.size≤gb101));clear HB;have HB:=n0_;have BK101:=n1_;have GW101:=n2_;have GE101:=n3_;clear n0_ n1_ n2_ n3_;clear hb hbox hg;obtain⟨y4_0,y4_1,y4_2,y4_3,z4_0,z4_1,z4_2,z4_3⟩:=bx4f BK101.out)|(go_at_call 80;(with_reducible refine(qvw.calls k (wrap64 (32 - (Int.tmod a0_1 64))) t102 _ A2.out).mono ?_);rintro e w' ⟨rfl,⟨nd,rfl⟩⟩;(try first|exact⟨rfl,_,World.drewN_drewN _ _ _⟩|exact⟨rfl,_,Eq.trans (World.drewN_drewN _ _ _) (congrArg (World.drewN _) (Nat.add_assoc _ _ _))⟩))))
 go_ret2
 exact⟨by first|rfl|(simp[*,zw,zv] <;> rfl),by solve_by_elim (maxDepth:=20) only[HB.out,L,O,J,qz,GE101.out]⟩
end Go.Proofs.YtkcdefnpbnbaeaaGreatDoor.Pr
namespace Go.Proofs.YtkcdefnpbnbaeaaGreatDoor.Pr
open Go.RowKit Go.Proofs.YtkcdefnpbnbaeaaGreatDoorW.PrintWords Go.Proofs.YtkcdefnpbnbaeaaGreatDoorW.PrintLast Go.Proofs.YtkcdefnpbnbaeaaGreatDoorW.PrintMore
attribute [local go_sem] max2_int min2_int max_two min_two max_three min_three max_four min_four
set_option linter.unusedVariables false
set_option linter.unusedSimpArgs false
def qvx.l0:Nat→ByteArray→Int→Option (Bool)
 | 0,_,_=>none
 | k + 1,x0,x3=>if x3 < (x0.size:Int) then(if 0≤x3 then(if (bt x0 x3) < 32 then(some false) else(if (bt x0 x3) > 126 then(some false) else(qvx.l0 k x0 (wrap64 (x3 + 1))))) else(none)) else(some true)
def qvx.f (k:Nat) (a0:ByteArray):Option (Bool):=qvx.l0 k a0 0
theorem qvx.calls (k:Nat) (a0:ByteArray) (r:Bool) (w:World) (h:qvx.f k a0=some r) :
  Calls Tryz.prog 79 #[.string a0] w fun e w'=>e=.returned (.bool r)∧Drawn0 w w':=by
 have H:(qvx.l0 k a0 0)=some r:=h;clear h;have H':=U.mk H;clear H;go_enter Tryz.func79,Tryz.ntmps79;go_wp2
 go_loopg [3] k (fun kq v3 w'=>∃ (x3_1:Int),v3=.int .i64 x3_1∧U (qvx.l0 kq a0 x3_1=some r)∧U (kq≤k)∧Drawn0 w w')
 case atStart=>exact⟨(0),(by first|rfl|(simp;done)|(simp[*];done)),H',⟨Nat.le_refl _⟩,by repeat(first|exact Drawn0.refl _|apply Drawn0.step)⟩
 case round =>
  clear H';obtain⟨x3_1,rfl,HA,HK1,⟨m1,rfl⟩⟩:=hrel
  cases gk with
  | zero=>exact absurd HA.out (by simp[qvx.l0])
  | succ k1 =>
   have H:=HA.out;clear HA;simp only[qvx.l0] at H
   by_cases c2:x3_1 < (a0.size:Int)
   ·rw[if_pos c2] at H;have c2b0:decide (x3_1 < (a0.size:Int))=true:=decide_eq_true c2;clear c2
    by_cases c3 : 0≤x3_1
    ·rw[if_pos c3] at H;have c3b0:decide (0≤x3_1)=true:=decide_eq_true c3;clear c3
     by_cases c5:(bt a0 x3_1) < 32
     ·rw[if_pos c5] at H;have c5b0:decide ((bt a0 x3_1) < 32)=true:=decide_eq_true c5;clear c5;obtain rfl:=Option.some.inj H;have p4 : 0≤(x3_1:Int):=of_decide_eq_true (by assumption);have q4:x3_1 < (a0.size:Int):=of_decide_eq_true (by assumption);have hx4:=bt_at a0 x3_1;replace p4:=eq_true p4;replace q4:=eq_true q4;go_wp2;go_ret
      exact⟨by first|rfl|(simp;done)|(simp[*];done),by repeat(first|exact Drawn0.refl _|apply Drawn0.step)⟩
     ·rw[if_neg c5] at H;have c5b0:decide ((bt a0 x3_1) < 32)=false:=decide_eq_false c5;clear c5
      by_cases c7:(bt a0 x3_1) > 126
      ·rw[if_pos c7] at H;have c7b0:decide (126 < (bt a0 x3_1))=true:=decide_eq_true c7;clear c7;obtain rfl:=Option.some.inj H;have p4 : 0≤(x3_1:Int):=of_decide_eq_true (by assumption);have q4:x3_1 < (a0.size:Int):=of_decide_eq_true (by assumption);have hx4:=bt_at a0 x3_1;replace p4:=eq_true p4;replace q4:=eq_true q4;have p6 : 0≤(x3_1:Int):=of_decide_eq_true (by assumption);have q6:x3_1 < (a0.size:Int):=of_decide_eq_true (by assumption);have hx6:=bt_at a0 x3_1;replace p6:=eq_true p6;replace q6:=eq_true q6;go_wp2;go_ret
       exact⟨by first|rfl|(simp;done)|(simp[*];done),by repeat(first|exact Drawn0.refl _|apply Drawn0.step)⟩
      ·rw[if_neg c7] at H;have c7b0:decide (126 < (bt a0 x3_1))=false:=decide_eq_false c7;clear c7;have H':=U.mk H;clear H;have p4 : 0≤(x3_1:Int):=of_decide_eq_true (by assumption);have q4:x3_1 < (a0.size:Int):=of_decide_eq_true (by assumption);have hx4:=bt_at a0 x3_1;replace p4:=eq_true p4;replace q4:=eq_true q4;have p6 : 0≤(x3_1:Int):=of_decide_eq_true (by assumption);have q6:x3_1 < (a0.size:Int):=of_decide_eq_true (by assumption);have hx6:=bt_at a0 x3_1;replace p6:=eq_true p6;replace q6:=eq_true q6;go_wp2;go_roundg k1
       case measure=>have:=HK1.out;omega
       case rel=>exact⟨(wrap64 (x3_1 + 1)),(by first|rfl|(simp;done)|(simp[*];done)),H',⟨by have:=HK1.out;omega⟩,by repeat(first|exact Drawn0.refl _|apply Drawn0.step)⟩
    ·rw[if_neg c3] at H;exact absurd H (by simp)
   ·rw[if_neg c2] at H;have c2b0:decide (x3_1 < (a0.size:Int))=false:=decide_eq_false c2;clear c2;obtain rfl:=Option.some.inj H;go_wp2;go_ret
    exact⟨by first|rfl|(simp;done)|(simp[*];done),by repeat(first|exact Drawn0.refl _|apply Drawn0.step)⟩
end Go.Proofs.YtkcdefnpbnbaeaaGreatDoor.Pr
namespace Go.Proofs.YtkcdefnpbnbaeaaGreatDoor.Pr
open Go.RowKit Go.Proofs.YtkcdefnpbnbaeaaGreatDoorW.PrintWords Go.Proofs.YtkcdefnpbnbaeaaGreatDoorW.PrintLast Go.Proofs.YtkcdefnpbnbaeaaGreatDoorW.PrintMore
attribute [local go_sem] max2_int min2_int max_two min_two max_three min_three max_four min_four
set_option linter.unusedVariables false
set_option linter.unusedSimpArgs false
mutual
def qkq.j0:Nat→Bool→Int→Int→ByteArray→ByteArray→Option (Bool)
 | 0,_,_,_,_,_=>none
 | k + 1,x27,x102000,x102001,x102002,x102003=>if x27=true then(some false) else(if x102000=1 then(if x102001=0 then(some true) else(some (x102001 == 1))) else(if x102000=2 then(qkq.j1 k x102000 (x102000 == 2) x102000 x102001 x102002 x102003) else(qkq.j1 k x102000 (x102000 == 5) x102000 x102001 x102002 x102003)))
def qkq.j1:Nat→Int→Bool→Int→Int→ByteArray→ByteArray→Option (Bool)
 | 0,_,_,_,_,_,_=>none
 | k + 1,x29,x40,x102000,x102001,x102002,x102003=>if x40=true then(some true) else(if x29=3 then(if x102001=0 then(if (x102002.size:Int)≤200 then((qvx.f k x102002).bind fun t102=>(some t102)) else(some false)) else(some false)) else(if x29=4 then(if x102001=0 then((qkz.f k x102003).bind fun t103=>(if t103=true then(if (x102002.size:Int) ≥ 1 then(if (x102002.size:Int)≤200 then((qvx.f k x102002).bind fun t104=>(some t104)) else(some false)) else(some false)) else(some false))) else(some false)) else(if x29=6 then(if x102001 < 0 then(some false) else((qvw.f k 32).bind fun t105=>(if (wrap64 (Int.tdiv x102001 64)) > (wrap64 (t105 - 1)) then(some false) else(if (Int.tmod x102001 64) > 32 then(some false) else((qkx.f k x102000 x102001 x102002 x102003).bind fun bt106=>(if bt106.2=0 then(none) else(some ((Int.tmod bt106.1 bt106.2) == 0)))))))) else(if x29=7 then(if x102001 ≥ (-100000000000) then(some (decide (x102001≤100000000000))) else(some false)) else(some false)))))
end
def qkq.f (k:Nat) (a0_0:Int) (a0_1:Int) (a0_2:ByteArray) (a0_3:ByteArray):Option (Bool):=if a0_0=3 then(if a0_0=4 then(qkq.j0 k false a0_0 a0_1 a0_2 a0_3) else(qkq.j0 k (a0_3.toList != ([]:List UInt8)) a0_0 a0_1 a0_2 a0_3)) else(if a0_0=4 then(qkq.j0 k false a0_0 a0_1 a0_2 a0_3) else(if a0_2.toList=([]:List UInt8) then(qkq.j0 k (a0_3.toList != ([]:List UInt8)) a0_0 a0_1 a0_2 a0_3) else(qkq.j0 k true a0_0 a0_1 a0_2 a0_3)))
theorem qkq.calls (k:Nat) (a0_0:Int) (a0_1:Int) (a0_2:ByteArray) (a0_3:ByteArray) (r:Bool) (w:World) (h:qkq.f k a0_0 a0_1 a0_2 a0_3=some r) :
  Calls Tryz.prog 52 #[.agg #[.int .i64 a0_0,.int .i64 a0_1,.string a0_2,.string a0_3]] w fun e w'=>e=.returned (.bool r)∧Below w.heap.size w w':=by
 have hu30:=Tryz.underlying30;have HB:=U.mk (Below.refl w.heap.size w);unfold qkq.f at h;have H:=h;clear h;have HC2:=U.mk H;clear H;go_enter Tryz.func52,Tryz.ntmps52;go_upto_region 1 with (first|((with_reducible refine gate_dst (N:=1) rfl ?_);(try (refine gate_guard (by rfl) ?_;dsimp only));refine box_event ?hg (N:=1) ?hd (cs:=#[.int .i64 a0_0,.int .i64 a0_1,.string a0_2,.string a0_3]) (t:=30) ?hr ?_;(case hd=>rfl);(case hg=>rfl);(case hr=>first|(go_simp;done)|(go_simp;rfl));intro gb101 hg w3 hbox hb;have BK101:=U.mk (hbox);have GW101:=U.mk ((by rw[hg];exact(zq (by solve_by_elim only[HB.out,L,O,J])):w.heap.size≤gb101));have GE101:=GW101;replace HB:=U.mk (qx (by solve_by_elim only[HB.out,L,O,J]) hb);clear hb hbox hg))
 repeat(go_quiet (first|((with_reducible refine gate_dst (N:=1) rfl ?_);(try (refine gate_guard (by rfl) ?_;dsimp only));refine box_event ?hg (N:=1) ?hd (cs:=#[.int .i64 a0_0,.int .i64 a0_1,.string a0_2,.string a0_3]) (t:=30) ?hr ?_;(case hd=>rfl);(case hg=>rfl);(case hr=>first|(go_simp;done)|(go_simp;rfl));intro gb101 hg w3 hbox hb;have BK101:=U.mk (hbox);have GW101:=U.mk ((by rw[hg];exact(zq (by solve_by_elim only[HB.out,L,O,J])):w.heap.size≤gb101));have GE101:=GW101;replace HB:=U.mk (qx (by solve_by_elim only[HB.out,L,O,J]) hb);clear hb hbox hg));go_upto_region 1 with (first|((with_reducible refine gate_dst (N:=1) rfl ?_);(try (refine gate_guard (by rfl) ?_;dsimp only));refine box_event ?hg (N:=1) ?hd (cs:=#[.int .i64 a0_0,.int .i64 a0_1,.string a0_2,.string a0_3]) (t:=30) ?hr ?_;(case hd=>rfl);(case hg=>rfl);(case hr=>first|(go_simp;done)|(go_simp;rfl));intro gb101 hg w3 hbox hb;have n0_:=U.mk (qx (by solve_by_elim only[HB.out,L,O,J]) hb);have n1_:=U.mk (hbox);have n2_:=U.mk ((by rw[hg];exact(zq (by solve_by_elim only[HB.out,L,O,J])):w.heap.size≤gb101));have n3_:=U.mk ((by rw[hg];exact(zq (by solve_by_elim only[HB.out,L,O,J])):w.heap.size≤gb101));clear HB;have HB:=n0_;have BK101:=n1_;have GW101:=n2_;have GE101:=n3_;clear n0_ n1_ n2_ n3_;clear hb hbox hg)))
 (try simp only[Act.put,jq5,jq6,jq7])
 go_cut [27] (fun v27 wc=>∃ (kq:Nat) (x27_1:Bool),v27=.bool x27_1∧U (qkq.j0 kq x27_1 a0_0 a0_1 a0_2 a0_3=some r)∧U (kq≤k)∧U (wc.heap[gb101]? = some (.cells #[.int .i64 a0_0,.int .i64 a0_1,.string a0_2,.string a0_3] 30 (0,0)))∧U (Below w.heap.size w wc))
 case first =>
  have H:=HC2.out;clear HC2
  by_cases c4:a0_0=3
  ·rw[if_pos c4] at H;have c4b0:(a0_0 == 3)=true:=beq_iff_eq.mpr c4;have c4b1:(a0_0 != 3)=false:=bne_eq_false_iff_eq.mpr c4;clear c4
   (first|rw[c4b0]|(simp only[i64_w,i32_w];rw[c4b0])|skip)
   by_cases c5:a0_0=4
   ·rw[if_pos c5] at H;have c5b0:(a0_0 == 4)=true:=beq_iff_eq.mpr c5;have c5b1:(a0_0 != 4)=false:=bne_eq_false_iff_eq.mpr c5;clear c5;have H':=U.mk H;clear H;obtain⟨y6_0,y6_1,y6_2,y6_3,z6_0,z6_1,z6_2,z6_3⟩:=bx4f BK101.out;go_wp2
    repeat(go_quiet (fail);try go_wp2)
    go_meet
    case rel=>exact⟨_,(false),(by first|rfl|(simp;done)|(simp[*];done)|(generalize ByteArray.toList _=l_;cases l_ <;> first|rfl|(simp;done))),H',⟨by first|omega|exact Nat.le_refl _⟩,⟨by(with_reducible repeat(first|refine qk ?_ _|refine qv ?_|refine qj ?_ _));exact BK101.out⟩,⟨by solve_by_elim (maxDepth:=20) only[HB.out,L,O,J,qz,GE101.out]⟩⟩
   ·rw[if_neg c5] at H;have c5b0:(a0_0 == 4)=false:=beq_eq_false_iff_ne.mpr c5;have c5b1:(a0_0 != 4)=true:=bne_iff_ne.mpr c5;have H':=U.mk H;clear H;obtain⟨y7_0,y7_1,y7_2,y7_3,z7_0,z7_1,z7_2,z7_3⟩:=bx4f BK101.out;go_wp2
    repeat(go_quiet (fail);try go_wp2)
    go_meet
    case rel=>exact⟨_,((a0_3.toList != ([]:List UInt8))),(by first|rfl|(simp;done)|(simp[*];done)|(generalize ByteArray.toList _=l_;cases l_ <;> first|rfl|(simp;done))),H',⟨by first|omega|exact Nat.le_refl _⟩,⟨by(with_reducible repeat(first|refine qk ?_ _|refine qv ?_|refine qj ?_ _));exact BK101.out⟩,⟨by solve_by_elim (maxDepth:=20) only[HB.out,L,O,J,qz,GE101.out]⟩⟩
  ·rw[if_neg c4] at H;have c4b0:(a0_0 == 3)=false:=beq_eq_false_iff_ne.mpr c4;have c4b1:(a0_0 != 3)=true:=bne_iff_ne.mpr c4
   (first|rw[c4b0]|(simp only[i64_w,i32_w];rw[c4b0])|skip)
   by_cases c8:a0_0=4
   ·rw[if_pos c8] at H;have c8b0:(a0_0 == 4)=true:=beq_iff_eq.mpr c8;have c8b1:(a0_0 != 4)=false:=bne_eq_false_iff_eq.mpr c8;clear c8;have H':=U.mk H;clear H;obtain⟨y9_0,y9_1,y9_2,y9_3,z9_0,z9_1,z9_2,z9_3⟩:=bx4f BK101.out;go_wp2
    repeat(go_quiet (fail);try go_wp2)
    go_meet
    case rel=>exact⟨_,(false),(by first|rfl|(simp;done)|(simp[*];done)|(generalize ByteArray.toList _=l_;cases l_ <;> first|rfl|(simp;done))),H',⟨by first|omega|exact Nat.le_refl _⟩,⟨by(with_reducible repeat(first|refine qk ?_ _|refine qv ?_|refine qj ?_ _));exact BK101.out⟩,⟨by solve_by_elim (maxDepth:=20) only[HB.out,L,O,J,qz,GE101.out]⟩⟩
   ·rw[if_neg c8] at H;have c8b0:(a0_0 == 4)=false:=beq_eq_false_iff_ne.mpr c8;have c8b1:(a0_0 != 4)=true:=bne_iff_ne.mpr c8
    by_cases c10:a0_2.toList=([]:List UInt8)
    ·rw[if_pos c10] at H;have c10b0:(a0_2.toList == ([]:List UInt8))=true:=beq_iff_eq.mpr c10;have c10b1:(a0_2.toList != ([]:List UInt8))=false:=bne_eq_false_iff_eq.mpr c10;clear c10;have H':=U.mk H;clear H;obtain⟨y11_0,y11_1,y11_2,y11_3,z11_0,z11_1,z11_2,z11_3⟩:=bx4f BK101.out;go_wp2
     repeat(go_quiet (fail);try go_wp2)
     go_meet
     case rel=>exact⟨_,((a0_3.toList != ([]:List UInt8))),(by first|rfl|(simp;done)|(simp[*];done)|(generalize ByteArray.toList _=l_;cases l_ <;> first|rfl|(simp;done))),H',⟨by first|omega|exact Nat.le_refl _⟩,⟨by(with_reducible repeat(first|refine qk ?_ _|refine qv ?_|refine qj ?_ _));exact BK101.out⟩,⟨by solve_by_elim (maxDepth:=20) only[HB.out,L,O,J,qz,GE101.out]⟩⟩
    ·rw[if_neg c10] at H;have c10b0:(a0_2.toList == ([]:List UInt8))=false:=beq_eq_false_iff_ne.mpr c10;have c10b1:(a0_2.toList != ([]:List UInt8))=true:=bne_iff_ne.mpr c10;have H':=U.mk H;clear H;obtain⟨y12_0,y12_1,y12_2,y12_3,z12_0,z12_1,z12_2,z12_3⟩:=bx4f BK101.out;go_wp2
     repeat(go_quiet (fail);try go_wp2)
     go_meet
     case rel=>exact⟨_,(true),(by first|rfl|(simp;done)|(simp[*];done)|(generalize ByteArray.toList _=l_;cases l_ <;> first|rfl|(simp;done))),H',⟨by first|omega|exact Nat.le_refl _⟩,⟨by(with_reducible repeat(first|refine qk ?_ _|refine qv ?_|refine qj ?_ _));exact BK101.out⟩,⟨by solve_by_elim (maxDepth:=20) only[HB.out,L,O,J,qz,GE101.out]⟩⟩
 case rest =>
  clear HC2;try clear c1
  try clear p2
  try clear c4
  try clear c4b0
  try clear c4b1
  try clear c5
  try clear c5b0
  try clear c5b1
  try clear c8
  try clear c8b0
  try clear c8b1
  try clear c10
  try clear c10b0
  try clear c10b1
  try clear y11_0 y11_1 y11_2 y11_3 z11_0 z11_1 z11_2 z11_3
  try clear y12_0 y12_1 y12_2 y12_3 z12_0 z12_1 z12_2 z12_3
  try clear y6_0 y6_1 y6_2 y6_3 z6_0 z6_1 z6_2 z6_3
  try clear y7_0 y7_1 y7_2 y7_3 z7_0 z7_1 z7_2 z7_3
  try clear y9_0 y9_1 y9_2 y9_3 z9_0 z9_1 z9_2 z9_3
  obtain⟨kq,x27_1,rfl,HA,HJ1,BK101,HB⟩:=hcut
  cases kq with
  | zero=>exact absurd HA.out (by simp[qkq.j0])
  | succ kj1 =>
   have H:=HA.out;clear HA;simp only[qkq.j0] at H
   by_cases c13:x27_1=true
   ·subst c13;have H1:(some false)=some r:=by rw[if_pos rfl] at H;exact H
    clear H;have H:=H1;clear H1;obtain rfl:=Option.some.inj H;go_wp2
    repeat(go_quiet (fail);try go_wp2)
    go_ret
    exact⟨by first|rfl|(simp[*,zw,zv] <;> rfl),by solve_by_elim (maxDepth:=20) only[HB.out,L,O,J,qz,GE101.out]⟩
   ·replace c13:=jq9.mpr c13;subst c13;have H1:(if a0_0=1 then(if a0_1=0 then(some true) else(some (a0_1 == 1))) else(if a0_0=2 then(qkq.j1 kj1 a0_0 (a0_0 == 2) a0_0 a0_1 a0_2 a0_3) else(qkq.j1 kj1 a0_0 (a0_0 == 5) a0_0 a0_1 a0_2 a0_3)))=some r:=by rw[if_neg (show ¬ (false=true) by decide)] at H;exact H
    clear H;have H:=H1;clear H1
    by_cases c14:a0_0=1
    ·rw[if_pos c14] at H;have c14b0:(a0_0 == 1)=true:=beq_iff_eq.mpr c14;have c14b1:(a0_0 != 1)=false:=bne_eq_false_iff_eq.mpr c14;clear c14
     by_cases c15:a0_1=0
     ·rw[if_pos c15] at H;have c15b0:(a0_1 == 0)=true:=beq_iff_eq.mpr c15;have c15b1:(a0_1 != 0)=false:=bne_eq_false_iff_eq.mpr c15;clear c15;obtain rfl:=Option.some.inj H;obtain⟨y16_0,y16_1,y16_2,y16_3,z16_0,z16_1,z16_2,z16_3⟩:=bx4f BK101.out;go_wp2
      repeat(go_quiet (fail);try go_wp2)
      go_ret
      exact⟨by first|rfl|(simp[*,zw,zv] <;> rfl),by solve_by_elim (maxDepth:=20) only[HB.out,L,O,J,qz,GE101.out]⟩
     ·rw[if_neg c15] at H;have c15b0:(a0_1 == 0)=false:=beq_eq_false_iff_ne.mpr c15;have c15b1:(a0_1 != 0)=true:=bne_iff_ne.mpr c15;obtain rfl:=Option.some.inj H;obtain⟨y17_0,y17_1,y17_2,y17_3,z17_0,z17_1,z17_2,z17_3⟩:=bx4f BK101.out;go_wp2
      repeat(go_quiet (fail);try go_wp2)
      go_ret
      exact⟨by first|rfl|(simp[*,zw,zv] <;> rfl),by solve_by_elim (maxDepth:=20) only[HB.out,L,O,J,qz,GE101.out]⟩
    ·rw[if_neg c14] at H;have c14b0:(a0_0 == 1)=false:=beq_eq_false_iff_ne.mpr c14;have c14b1:(a0_0 != 1)=true:=bne_iff_ne.mpr c14;have HC18:=U.mk H;clear H;obtain⟨y19_0,y19_1,y19_2,y19_3,z19_0,z19_1,z19_2,z19_3⟩:=bx4f BK101.out;go_upto_if 40 with (fail)
     repeat(go_quiet (fail);go_upto_if 40 with (fail))
     go_cut [40] (fun v40 wc=>∃ (kq:Nat) (x40_17:Bool),v40=.bool x40_17∧U (qkq.j1 kq a0_0 x40_17 a0_0 a0_1 a0_2 a0_3=some r)∧U (kq≤kj1)∧U (wc.heap[gb101]? = some (.cells #[.int .i64 a0_0,.int .i64 a0_1,.string a0_2,.string a0_3] 30 (0,0)))∧U (Below w.heap.size w wc))
     case first =>
      have H:=HC18.out;clear HC18
      by_cases c20:a0_0=2
      ·rw[if_pos c20] at H;have c20b0:(a0_0 == 2)=true:=beq_iff_eq.mpr c20;have c20b1:(a0_0 != 2)=false:=bne_eq_false_iff_eq.mpr c20;clear c20
       (first|rw[c20b0]|(simp only[i64_w,i32_w];rw[c20b0])|skip)
       have H':=U.mk H;clear H;go_wp2
       repeat(go_quiet (fail);try go_wp2)
       go_meet
       case rel=>exact⟨_,((a0_0 == 2)),(by first|rfl|(simp;done)|(simp[*];done)|(generalize ByteArray.toList _=l_;cases l_ <;> first|rfl|(simp;done))),H',⟨by have:=HJ1.out;first|omega|exact Nat.le_refl _⟩,⟨by(with_reducible repeat(first|refine qk ?_ _|refine qv ?_|refine qj ?_ _));exact BK101.out⟩,⟨by solve_by_elim (maxDepth:=20) only[HB.out,L,O,J,qz,GE101.out]⟩⟩
      ·rw[if_neg c20] at H;have c20b0:(a0_0 == 2)=false:=beq_eq_false_iff_ne.mpr c20;have c20b1:(a0_0 != 2)=true:=bne_iff_ne.mpr c20
       (first|rw[c20b0]|(simp only[i64_w,i32_w];rw[c20b0])|skip)
       have H':=U.mk H;clear H;go_wp2
       repeat(go_quiet (fail);try go_wp2)
       go_meet
       case rel=>exact⟨_,((a0_0 == 5)),(by first|rfl|(simp;done)|(simp[*];done)|(generalize ByteArray.toList _=l_;cases l_ <;> first|rfl|(simp;done))),H',⟨by have:=HJ1.out;first|omega|exact Nat.le_refl _⟩,⟨by(with_reducible repeat(first|refine qk ?_ _|refine qv ?_|refine qj ?_ _));exact BK101.out⟩,⟨by solve_by_elim (maxDepth:=20) only[HB.out,L,O,J,qz,GE101.out]⟩⟩
     case rest =>
      clear HC18;try clear c1
      try clear c2
      try clear p2 p2
      try clear c4
      try clear c4b0
      try clear c4b1
      try clear c5
      try clear c5b0
      try clear c5b1
      try clear c8
      try clear c8b0
      try clear c8b1
      try clear c10
      try clear c10b0
      try clear c10b1
      try clear c13
      try clear c14
      try clear c14b0
      try clear c14b1
      try clear c15
      try clear c15b0
      try clear c15b1
      try clear c20
      try clear c20b0
      try clear c20b1
      try clear y11_0 y11_1 y11_2 y11_3 z11_0 z11_1 z11_2 z11_3
      try clear y12_0 y12_1 y12_2 y12_3 z12_0 z12_1 z12_2 z12_3
      try clear y16_0 y16_1 y16_2 y16_3 z16_0 z16_1 z16_2 z16_3
      try clear y17_0 y17_1 y17_2 y17_3 z17_0 z17_1 z17_2 z17_3
      try clear y19_0 y19_1 y19_2 y19_3 z19_0 z19_1 z19_2 z19_3
      try clear y6_0 y6_1 y6_2 y6_3 z6_0 z6_1 z6_2 z6_3
      try clear y7_0 y7_1 y7_2 y7_3 z7_0 z7_1 z7_2 z7_3
      try clear y9_0 y9_1 y9_2 y9_3 z9_0 z9_1 z9_2 z9_3
      obtain⟨kq,x40_17,rfl,HA,HJ17,BK101,HB⟩:=hcut
      cases kq with
      | zero=>exact absurd HA.out (by simp[qkq.j1])
      | succ kj17 =>
       have H:=HA.out;clear HA;simp only[qkq.j1] at H
       by_cases c21:x40_17=true
       ·subst c21;have H1:(some true)=some r:=by rw[if_pos rfl] at H;exact H
        clear H;have H:=H1;clear H1;obtain rfl:=Option.some.inj H;go_wp2
        repeat(go_quiet (fail);try go_wp2)
        go_ret
        exact⟨by first|rfl|(simp[*,zw,zv] <;> rfl),by solve_by_elim (maxDepth:=20) only[HB.out,L,O,J,qz,GE101.out]⟩
       ·replace c21:=jq9.mpr c21;subst c21;have H1:(if a0_0=3 then(if a0_1=0 then(if (a0_2.size:Int)≤200 then((qvx.f kj17 a0_2).bind fun t102=>(some t102)) else(some false)) else(some false)) else(if a0_0=4 then(if a0_1=0 then((qkz.f kj17 a0_3).bind fun t103=>(if t103=true then(if (a0_2.size:Int) ≥ 1 then(if (a0_2.size:Int)≤200 then((qvx.f kj17 a0_2).bind fun t104=>(some t104)) else(some false)) else(some false)) else(some false))) else(some false)) else(if a0_0=6 then(if a0_1 < 0 then(some false) else((qvw.f kj17 32).bind fun t105=>(if (wrap64 (Int.tdiv a0_1 64)) > (wrap64 (t105 - 1)) then(some false) else(if (Int.tmod a0_1 64) > 32 then(some false) else((qkx.f kj17 a0_0 a0_1 a0_2 a0_3).bind fun bt106=>(if bt106.2=0 then(none) else(some ((Int.tmod bt106.1 bt106.2) == 0)))))))) else(if a0_0=7 then(if a0_1 ≥ (-100000000000) then(some (decide (a0_1≤100000000000))) else(some false)) else(some false)))))=some r:=by rw[if_neg (show ¬ (false=true) by decide)] at H;exact H
        clear H;have H:=H1;clear H1
        by_cases c22:a0_0=3
        ·rw[if_pos c22] at H;have c22b0:(a0_0 == 3)=true:=beq_iff_eq.mpr c22;have c22b1:(a0_0 != 3)=false:=bne_eq_false_iff_eq.mpr c22;clear c22
         by_cases c23:a0_1=0
         ·rw[if_pos c23] at H;have c23b0:(a0_1 == 0)=true:=beq_iff_eq.mpr c23;have c23b1:(a0_1 != 0)=false:=bne_eq_false_iff_eq.mpr c23;clear c23
          by_cases c24:(a0_2.size:Int)≤200
          ·rw[if_pos c24] at H;have c24b0:decide ((a0_2.size:Int)≤200)=true:=decide_eq_true c24;have c24b1:decide (a0_2.size≤200)=true:=decide_eq_true (by omega);clear c24;replace H:=jq8.mp H;obtain⟨t102,A250,H⟩:=H;replace H:(some t102)=some r:=H;have A25:=U.mk A250;clear A250;obtain rfl:=Option.some.inj H;obtain⟨y26_0,y26_1,y26_2,y26_3,z26_0,z26_1,z26_2,z26_3⟩:=bx4f BK101.out;go_wp2_with (first|(go_at_call 79;(with_reducible refine(qvx.calls kj17 a0_2 t102 _ A25.out).mono ?_);rintro e w' ⟨rfl,⟨nd,rfl⟩⟩;(try first|exact⟨rfl,_,World.drewN_drewN _ _ _⟩|exact⟨rfl,_,Eq.trans (World.drewN_drewN _ _ _) (congrArg (World.drewN _) (Nat.add_assoc _ _ _))⟩)))
           repeat(go_quiet (first|(go_at_call 79;(with_reducible refine(qvx.calls kj17 a0_2 t102 _ A25.out).mono ?_);rintro e w' ⟨rfl,⟨nd,rfl⟩⟩;(try first|exact⟨rfl,_,World.drewN_drewN _ _ _⟩|exact⟨rfl,_,Eq.trans (World.drewN_drewN _ _ _) (congrArg (World.drewN _) (Nat.add_assoc _ _ _))⟩)));try go_wp2_with (first|(go_at_call 79;(with_reducible refine(qvx.calls kj17 a0_2 t102 _ A25.out).mono ?_);rintro e w' ⟨rfl,⟨nd,rfl⟩⟩;(try first|exact⟨rfl,_,World.drewN_drewN _ _ _⟩|exact⟨rfl,_,Eq.trans (World.drewN_drewN _ _ _) (congrArg (World.drewN _) (Nat.add_assoc _ _ _))⟩))))
           go_ret
           exact⟨by first|rfl|(simp[*,zw,zv] <;> rfl),by solve_by_elim (maxDepth:=20) only[HB.out,L,O,J,qz,GE101.out]⟩
          ·rw[if_neg c24] at H;have c24b0:decide ((a0_2.size:Int)≤200)=false:=decide_eq_false c24;have c24b1:decide (a0_2.size≤200)=false:=decide_eq_false (by omega);clear c24;obtain rfl:=Option.some.inj H;obtain⟨y27_0,y27_1,y27_2,y27_3,z27_0,z27_1,z27_2,z27_3⟩:=bx4f BK101.out;go_wp2
           repeat(go_quiet (fail);try go_wp2)
           go_ret
           exact⟨by first|rfl|(simp[*,zw,zv] <;> rfl),by solve_by_elim (maxDepth:=20) only[HB.out,L,O,J,qz,GE101.out]⟩
         ·rw[if_neg c23] at H;have c23b0:(a0_1 == 0)=false:=beq_eq_false_iff_ne.mpr c23;have c23b1:(a0_1 != 0)=true:=bne_iff_ne.mpr c23;obtain rfl:=Option.some.inj H;obtain⟨y28_0,y28_1,y28_2,y28_3,z28_0,z28_1,z28_2,z28_3⟩:=bx4f BK101.out;go_wp2
          repeat(go_quiet (fail);try go_wp2)
          go_ret
          exact⟨by first|rfl|(simp[*,zw,zv] <;> rfl),by solve_by_elim (maxDepth:=20) only[HB.out,L,O,J,qz,GE101.out]⟩
        ·rw[if_neg c22] at H;have c22b0:(a0_0 == 3)=false:=beq_eq_false_iff_ne.mpr c22;have c22b1:(a0_0 != 3)=true:=bne_iff_ne.mpr c22
         by_cases c29:a0_0=4
         ·rw[if_pos c29] at H;have c29b0:(a0_0 == 4)=true:=beq_iff_eq.mpr c29;have c29b1:(a0_0 != 4)=false:=bne_eq_false_iff_eq.mpr c29;clear c29
          by_cases c30:a0_1=0
          ·rw[if_pos c30] at H;have c30b0:(a0_1 == 0)=true:=beq_iff_eq.mpr c30;have c30b1:(a0_1 != 0)=false:=bne_eq_false_iff_eq.mpr c30;clear c30;replace H:=jq8.mp H;obtain⟨t103,A310,H⟩:=H;try dsimp only at H
           have A31:=U.mk A310;clear A310
           by_cases c32:t103=true
           ·subst c32;have H1:(if (a0_2.size:Int) ≥ 1 then(if (a0_2.size:Int)≤200 then((qvx.f kj17 a0_2).bind fun t104=>(some t104)) else(some false)) else(some false))=some r:=by rw[if_pos rfl] at H;exact H
            clear H;have H:=H1;clear H1
            by_cases c33:(a0_2.size:Int) ≥ 1
            ·rw[if_pos c33] at H;have c33b0:decide (1≤(a0_2.size:Int))=true:=decide_eq_true c33;have c33b1:decide (1≤a0_2.size)=true:=decide_eq_true (by omega);clear c33
             by_cases c34:(a0_2.size:Int)≤200
             ·rw[if_pos c34] at H;have c34b0:decide ((a0_2.size:Int)≤200)=true:=decide_eq_true c34;have c34b1:decide (a0_2.size≤200)=true:=decide_eq_true (by omega);clear c34;replace H:=jq8.mp H;obtain⟨t104,A350,H⟩:=H;replace H:(some t104)=some r:=H;have A35:=U.mk A350;clear A350;obtain rfl:=Option.some.inj H;obtain⟨y36_0,y36_1,y36_2,y36_3,z36_0,z36_1,z36_2,z36_3⟩:=bx4f BK101.out;go_wp2_with (first|(go_at_call 54;(with_reducible refine(qkz.calls kj17 a0_3 true _ A31.out).mono ?_);rintro e w' ⟨rfl,⟨nd,rfl⟩⟩;(try first|exact⟨rfl,_,World.drewN_drewN _ _ _⟩|exact⟨rfl,_,Eq.trans (World.drewN_drewN _ _ _) (congrArg (World.drewN _) (Nat.add_assoc _ _ _))⟩))|(go_at_call 79;(with_reducible refine(qvx.calls kj17 a0_2 t104 _ A35.out).mono ?_);rintro e w' ⟨rfl,⟨nd,rfl⟩⟩;(try first|exact⟨rfl,_,World.drewN_drewN _ _ _⟩|exact⟨rfl,_,Eq.trans (World.drewN_drewN _ _ _) (congrArg (World.drewN _) (Nat.add_assoc _ _ _))⟩)))
              repeat(go_quiet (first|(go_at_call 54;(with_reducible refine(qkz.calls kj17 a0_3 true _ A31.out).mono ?_);rintro e w' ⟨rfl,⟨nd,rfl⟩⟩;(try first|exact⟨rfl,_,World.drewN_drewN _ _ _⟩|exact⟨rfl,_,Eq.trans (World.drewN_drewN _ _ _) (congrArg (World.drewN _) (Nat.add_assoc _ _ _))⟩))|(go_at_call 79;(with_reducible refine(qvx.calls kj17 a0_2 t104 _ A35.out).mono ?_);rintro e w' ⟨rfl,⟨nd,rfl⟩⟩;(try first|exact⟨rfl,_,World.drewN_drewN _ _ _⟩|exact⟨rfl,_,Eq.trans (World.drewN_drewN _ _ _) (congrArg (World.drewN _) (Nat.add_assoc _ _ _))⟩)));try go_wp2_with (first|(go_at_call 54;(with_reducible refine(qkz.calls kj17 a0_3 true _ A31.out).mono ?_);rintro e w' ⟨rfl,⟨nd,rfl⟩⟩;(try first|exact⟨rfl,_,World.drewN_drewN _ _ _⟩|exact⟨rfl,_,Eq.trans (World.drewN_drewN _ _ _) (congrArg (World.drewN _) (Nat.add_assoc _ _ _))⟩))|(go_at_call 79;(with_reducible refine(qvx.calls kj17 a0_2 t104 _ A35.out).mono ?_);rintro e w' ⟨rfl,⟨nd,rfl⟩⟩;(try first|exact⟨rfl,_,World.drewN_drewN _ _ _⟩|exact⟨rfl,_,Eq.trans (World.drewN_drewN _ _ _) (congrArg (World.drewN _) (Nat.add_assoc _ _ _))⟩))))
              go_ret
              exact⟨by first|rfl|(simp[*,zw,zv] <;> rfl),by solve_by_elim (maxDepth:=20) only[HB.out,L,O,J,qz,GE101.out]⟩
             ·rw[if_neg c34] at H;have c34b0:decide ((a0_2.size:Int)≤200)=false:=decide_eq_false c34;have c34b1:decide (a0_2.size≤200)=false:=decide_eq_false (by omega);clear c34;obtain rfl:=Option.some.inj H;obtain⟨y37_0,y37_1,y37_2,y37_3,z37_0,z37_1,z37_2,z37_3⟩:=bx4f BK101.out;go_wp2_with (first|(go_at_call 54;(with_reducible refine(qkz.calls kj17 a0_3 true _ A31.out).mono ?_);rintro e w' ⟨rfl,⟨nd,rfl⟩⟩;(try first|exact⟨rfl,_,World.drewN_drewN _ _ _⟩|exact⟨rfl,_,Eq.trans (World.drewN_drewN _ _ _) (congrArg (World.drewN _) (Nat.add_assoc _ _ _))⟩)))
              repeat(go_quiet (first|(go_at_call 54;(with_reducible refine(qkz.calls kj17 a0_3 true _ A31.out).mono ?_);rintro e w' ⟨rfl,⟨nd,rfl⟩⟩;(try first|exact⟨rfl,_,World.drewN_drewN _ _ _⟩|exact⟨rfl,_,Eq.trans (World.drewN_drewN _ _ _) (congrArg (World.drewN _) (Nat.add_assoc _ _ _))⟩)));try go_wp2_with (first|(go_at_call 54;(with_reducible refine(qkz.calls kj17 a0_3 true _ A31.out).mono ?_);rintro e w' ⟨rfl,⟨nd,rfl⟩⟩;(try first|exact⟨rfl,_,World.drewN_drewN _ _ _⟩|exact⟨rfl,_,Eq.trans (World.drewN_drewN _ _ _) (congrArg (World.drewN _) (Nat.add_assoc _ _ _))⟩))))
              go_ret
              exact⟨by first|rfl|(simp[*,zw,zv] <;> rfl),by solve_by_elim (maxDepth:=20) only[HB.out,L,O,J,qz,GE101.out]⟩
            ·rw[if_neg c33] at H;have c33b0:decide (1≤(a0_2.size:Int))=false:=decide_eq_false c33;have c33b1:decide (1≤a0_2.size)=false:=decide_eq_false (by omega);clear c33;obtain rfl:=Option.some.inj H;obtain⟨y38_0,y38_1,y38_2,y38_3,z38_0,z38_1,z38_2,z38_3⟩:=bx4f BK101.out;go_wp2_with (first|(go_at_call 54;(with_reducible refine(qkz.calls kj17 a0_3 true _ A31.out).mono ?_);rintro e w' ⟨rfl,⟨nd,rfl⟩⟩;(try first|exact⟨rfl,_,World.drewN_drewN _ _ _⟩|exact⟨rfl,_,Eq.trans (World.drewN_drewN _ _ _) (congrArg (World.drewN _) (Nat.add_assoc _ _ _))⟩)))
             repeat(go_quiet (first|(go_at_call 54;(with_reducible refine(qkz.calls kj17 a0_3 true _ A31.out).mono ?_);rintro e w' ⟨rfl,⟨nd,rfl⟩⟩;(try first|exact⟨rfl,_,World.drewN_drewN _ _ _⟩|exact⟨rfl,_,Eq.trans (World.drewN_drewN _ _ _) (congrArg (World.drewN _) (Nat.add_assoc _ _ _))⟩)));try go_wp2_with (first|(go_at_call 54;(with_reducible refine(qkz.calls kj17 a0_3 true _ A31.out).mono ?_);rintro e w' ⟨rfl,⟨nd,rfl⟩⟩;(try first|exact⟨rfl,_,World.drewN_drewN _ _ _⟩|exact⟨rfl,_,Eq.trans (World.drewN_drewN _ _ _) (congrArg (World.drewN _) (Nat.add_assoc _ _ _))⟩))))
             go_ret
             exact⟨by first|rfl|(simp[*,zw,zv] <;> rfl),by solve_by_elim (maxDepth:=20) only[HB.out,L,O,J,qz,GE101.out]⟩
           ·replace c32:=jq9.mpr c32;subst c32;have H1:(some false)=some r:=by rw[if_neg (show ¬ (false=true) by decide)] at H;exact H
            clear H;have H:=H1;clear H1;obtain rfl:=Option.some.inj H;obtain⟨y39_0,y39_1,y39_2,y39_3,z39_0,z39_1,z39_2,z39_3⟩:=bx4f BK101.out;go_wp2_with (first|(go_at_call 54;(with_reducible refine(qkz.calls kj17 a0_3 false _ A31.out).mono ?_);rintro e w' ⟨rfl,⟨nd,rfl⟩⟩;(try first|exact⟨rfl,_,World.drewN_drewN _ _ _⟩|exact⟨rfl,_,Eq.trans (World.drewN_drewN _ _ _) (congrArg (World.drewN _) (Nat.add_assoc _ _ _))⟩)))
            repeat(go_quiet (first|(go_at_call 54;(with_reducible refine(qkz.calls kj17 a0_3 false _ A31.out).mono ?_);rintro e w' ⟨rfl,⟨nd,rfl⟩⟩;(try first|exact⟨rfl,_,World.drewN_drewN _ _ _⟩|exact⟨rfl,_,Eq.trans (World.drewN_drewN _ _ _) (congrArg (World.drewN _) (Nat.add_assoc _ _ _))⟩)));try go_wp2_with (first|(go_at_call 54;(with_reducible refine(qkz.calls kj17 a0_3 false _ A31.out).mono ?_);rintro e w' ⟨rfl,⟨nd,rfl⟩⟩;(try first|exact⟨rfl,_,World.drewN_drewN _ _ _⟩|exact⟨rfl,_,Eq.trans (World.drewN_drewN _ _ _) (congrArg (World.drewN _) (Nat.add_assoc _ _ _))⟩))))
            go_ret
            exact⟨by first|rfl|(simp[*,zw,zv] <;> rfl),by solve_by_elim (maxDepth:=20) only[HB.out,L,O,J,qz,GE101.out]⟩
          ·rw[if_neg c30] at H;have c30b0:(a0_1 == 0)=false:=beq_eq_false_iff_ne.mpr c30;have c30b1:(a0_1 != 0)=true:=bne_iff_ne.mpr c30;obtain rfl:=Option.some.inj H;obtain⟨y40_0,y40_1,y40_2,y40_3,z40_0,z40_1,z40_2,z40_3⟩:=bx4f BK101.out;go_wp2
           repeat(go_quiet (fail);try go_wp2)
           go_ret
           exact⟨by first|rfl|(simp[*,zw,zv] <;> rfl),by solve_by_elim (maxDepth:=20) only[HB.out,L,O,J,qz,GE101.out]⟩
         ·rw[if_neg c29] at H;have c29b0:(a0_0 == 4)=false:=beq_eq_false_iff_ne.mpr c29;have c29b1:(a0_0 != 4)=true:=bne_iff_ne.mpr c29
          by_cases c41:a0_0=6
          ·rw[if_pos c41] at H;have c41b0:(a0_0 == 6)=true:=beq_iff_eq.mpr c41;have c41b1:(a0_0 != 6)=false:=bne_eq_false_iff_eq.mpr c41;clear c41
           by_cases c42:a0_1 < 0
           ·rw[if_pos c42] at H;have c42b0:decide (a0_1 < 0)=true:=decide_eq_true c42;clear c42;obtain rfl:=Option.some.inj H;obtain⟨y43_0,y43_1,y43_2,y43_3,z43_0,z43_1,z43_2,z43_3⟩:=bx4f BK101.out;go_wp2
            repeat(go_quiet (fail);try go_wp2)
            go_ret
            exact⟨by first|rfl|(simp[*,zw,zv] <;> rfl),by solve_by_elim (maxDepth:=20) only[HB.out,L,O,J,qz,GE101.out]⟩
           ·rw[if_neg c42] at H;have c42b0:decide (a0_1 < 0)=false:=decide_eq_false c42;clear c42;replace H:=jq8.mp H;obtain⟨t105,A440,H⟩:=H;try dsimp only at H
            have A44:=U.mk A440;clear A440
            by_cases c45:(wrap64 (Int.tdiv a0_1 64)) > (wrap64 (t105 - 1))
            ·rw[if_pos c45] at H;have c45b0:decide ((wrap64 (t105 - 1)) < (wrap64 (Int.tdiv a0_1 64)))=true:=decide_eq_true c45;clear c45;obtain rfl:=Option.some.inj H;obtain⟨y46_0,y46_1,y46_2,y46_3,z46_0,z46_1,z46_2,z46_3⟩:=bx4f BK101.out;go_wp2_with (first|(go_at_call 80;(with_reducible refine(qvw.calls kj17 32 t105 _ A44.out).mono ?_);rintro e w' ⟨rfl,⟨nd,rfl⟩⟩;(try first|exact⟨rfl,_,World.drewN_drewN _ _ _⟩|exact⟨rfl,_,Eq.trans (World.drewN_drewN _ _ _) (congrArg (World.drewN _) (Nat.add_assoc _ _ _))⟩)))
             repeat(go_quiet (first|(go_at_call 80;(with_reducible refine(qvw.calls kj17 32 t105 _ A44.out).mono ?_);rintro e w' ⟨rfl,⟨nd,rfl⟩⟩;(try first|exact⟨rfl,_,World.drewN_drewN _ _ _⟩|exact⟨rfl,_,Eq.trans (World.drewN_drewN _ _ _) (congrArg (World.drewN _) (Nat.add_assoc _ _ _))⟩)));try go_wp2_with (first|(go_at_call 80;(with_reducible refine(qvw.calls kj17 32 t105 _ A44.out).mono ?_);rintro e w' ⟨rfl,⟨nd,rfl⟩⟩;(try first|exact⟨rfl,_,World.drewN_drewN _ _ _⟩|exact⟨rfl,_,Eq.trans (World.drewN_drewN _ _ _) (congrArg (World.drewN _) (Nat.add_assoc _ _ _))⟩))))
             go_ret
             exact⟨by first|rfl|(simp[*,zw,zv] <;> rfl),by solve_by_elim (maxDepth:=20) only[HB.out,L,O,J,qz,GE101.out]⟩
            ·rw[if_neg c45] at H;have c45b0:decide ((wrap64 (t105 - 1)) < (wrap64 (Int.tdiv a0_1 64)))=false:=decide_eq_false c45;clear c45
             by_cases c47:(Int.tmod a0_1 64) > 32
             ·rw[if_pos c47] at H;have c47b0:decide (32 < (Int.tmod a0_1 64))=true:=decide_eq_true c47;clear c47;obtain rfl:=Option.some.inj H;obtain⟨y48_0,y48_1,y48_2,y48_3,z48_0,z48_1,z48_2,z48_3⟩:=bx4f BK101.out;go_wp2_with (first|(go_at_call 80;(with_reducible refine(qvw.calls kj17 32 t105 _ A44.out).mono ?_);rintro e w' ⟨rfl,⟨nd,rfl⟩⟩;(try first|exact⟨rfl,_,World.drewN_drewN _ _ _⟩|exact⟨rfl,_,Eq.trans (World.drewN_drewN _ _ _) (congrArg (World.drewN _) (Nat.add_assoc _ _ _))⟩)))
              repeat(go_quiet (first|(go_at_call 80;(with_reducible refine(qvw.calls kj17 32 t105 _ A44.out).mono ?_);rintro e w' ⟨rfl,⟨nd,rfl⟩⟩;(try first|exact⟨rfl,_,World.drewN_drewN _ _ _⟩|exact⟨rfl,_,Eq.trans (World.drewN_drewN _ _ _) (congrArg (World.drewN _) (Nat.add_assoc _ _ _))⟩)));try go_wp2_with (first|(go_at_call 80;(with_reducible refine(qvw.calls kj17 32 t105 _ A44.out).mono ?_);rintro e w' ⟨rfl,⟨nd,rfl⟩⟩;(try first|exact⟨rfl,_,World.drewN_drewN _ _ _⟩|exact⟨rfl,_,Eq.trans (World.drewN_drewN _ _ _) (congrArg (World.drewN _) (Nat.add_assoc _ _ _))⟩))))
              go_ret
              exact⟨by first|rfl|(simp[*,zw,zv] <;> rfl),by solve_by_elim (maxDepth:=20) only[HB.out,L,O,J,qz,GE101.out]⟩
             ·rw[if_neg c47] at H;have c47b0:decide (32 < (Int.tmod a0_1 64))=false:=decide_eq_false c47;clear c47;replace H:=jq8.mp H;obtain⟨⟨t106,t107⟩,A490,H⟩:=H;try dsimp only at H
              have A49:=U.mk A490;clear A490
              by_cases c50:t107=0
              ·rw[if_pos c50] at H;exact absurd H (by simp)
              ·rw[if_neg c50] at H;have c50b0:(t107 == 0)=false:=beq_eq_false_iff_ne.mpr c50;have c50b1:(t107 != 0)=true:=bne_iff_ne.mpr c50;obtain rfl:=Option.some.inj H;obtain⟨y51_0,y51_1,y51_2,y51_3,z51_0,z51_1,z51_2,z51_3⟩:=bx4f BK101.out;go_wp2_with (first|(go_at_call 80;(with_reducible refine(qvw.calls kj17 32 t105 _ A44.out).mono ?_);rintro e w' ⟨rfl,⟨nd,rfl⟩⟩;(try first|exact⟨rfl,_,World.drewN_drewN _ _ _⟩|exact⟨rfl,_,Eq.trans (World.drewN_drewN _ _ _) (congrArg (World.drewN _) (Nat.add_assoc _ _ _))⟩))|(go_at_call 59;(with_reducible refine(qkx.calls kj17 a0_0 a0_1 a0_2 a0_3 t106 t107 _ A49.out).mono ?_);rintro e w52 ⟨rfl,hb⟩;replace BK101:=U.mk (jx (by solve_by_elim only[BK101.out,qk,qv,qj]) hb);replace HB:=U.mk (qx (by solve_by_elim (maxDepth:=20) only[HB.out,L,O,J,qz,GE101.out]) hb);(try clear hb)))
               repeat(go_quiet (first|(go_at_call 80;(with_reducible refine(qvw.calls kj17 32 t105 _ A44.out).mono ?_);rintro e w' ⟨rfl,⟨nd,rfl⟩⟩;(try first|exact⟨rfl,_,World.drewN_drewN _ _ _⟩|exact⟨rfl,_,Eq.trans (World.drewN_drewN _ _ _) (congrArg (World.drewN _) (Nat.add_assoc _ _ _))⟩))|(go_at_call 59;(with_reducible refine(qkx.calls kj17 a0_0 a0_1 a0_2 a0_3 t106 t107 _ A49.out).mono ?_);rintro e w52 ⟨rfl,hb⟩;replace BK101:=U.mk (jx (by solve_by_elim only[BK101.out,qk,qv,qj]) hb);replace HB:=U.mk (qx (by solve_by_elim (maxDepth:=20) only[HB.out,L,O,J,qz,GE101.out]) hb);(try clear hb)));try go_wp2_with (first|(go_at_call 80;(with_reducible refine(qvw.calls kj17 32 t105 _ A44.out).mono ?_);rintro e w' ⟨rfl,⟨nd,rfl⟩⟩;(try first|exact⟨rfl,_,World.drewN_drewN _ _ _⟩|exact⟨rfl,_,Eq.trans (World.drewN_drewN _ _ _) (congrArg (World.drewN _) (Nat.add_assoc _ _ _))⟩))|(go_at_call 59;(with_reducible refine(qkx.calls kj17 a0_0 a0_1 a0_2 a0_3 t106 t107 _ A49.out).mono ?_);rintro e w52 ⟨rfl,hb⟩;have n0_:=U.mk (jx (g:=gb101) (o:=.cells #[.int .i64 a0_0,.int .i64 a0_1,.string a0_2,.string a0_3] 30 (0,0)) (by solve_by_elim only[BK101.out,qk,qv,qj]) hb);have n1_:=U.mk (qx (by solve_by_elim (maxDepth:=20) only[HB.out,L,O,J,qz,GE101.out]) hb);clear BK101;clear HB;have BK101:=n0_;have HB:=n1_;clear n0_ n1_;(try clear hb);(try clear hb2);(try clear hk);(try clear hi))))
               go_ret
               exact⟨by first|rfl|(simp[*,zw,zv] <;> rfl),by solve_by_elim (maxDepth:=20) only[HB.out,L,O,J,qz,GE101.out]⟩
          ·rw[if_neg c41] at H;have c41b0:(a0_0 == 6)=false:=beq_eq_false_iff_ne.mpr c41;have c41b1:(a0_0 != 6)=true:=bne_iff_ne.mpr c41
           by_cases c53:a0_0=7
           ·rw[if_pos c53] at H;have c53b0:(a0_0 == 7)=true:=beq_iff_eq.mpr c53;have c53b1:(a0_0 != 7)=false:=bne_eq_false_iff_eq.mpr c53;clear c53
            by_cases c54:a0_1 ≥ (-100000000000)
            ·rw[if_pos c54] at H;have c54b0:decide ((-100000000000)≤a0_1)=true:=decide_eq_true c54;clear c54;obtain rfl:=Option.some.inj H;obtain⟨y55_0,y55_1,y55_2,y55_3,z55_0,z55_1,z55_2,z55_3⟩:=bx4f BK101.out;go_wp2
             repeat(go_quiet (fail);try go_wp2)
             go_ret
             exact⟨by first|rfl|(simp[*,zw,zv] <;> rfl),by solve_by_elim (maxDepth:=20) only[HB.out,L,O,J,qz,GE101.out]⟩
            ·rw[if_neg c54] at H;have c54b0:decide ((-100000000000)≤a0_1)=false:=decide_eq_false c54;clear c54;obtain rfl:=Option.some.inj H;obtain⟨y56_0,y56_1,y56_2,y56_3,z56_0,z56_1,z56_2,z56_3⟩:=bx4f BK101.out;go_wp2
             repeat(go_quiet (fail);try go_wp2)
             go_ret
             exact⟨by first|rfl|(simp[*,zw,zv] <;> rfl),by solve_by_elim (maxDepth:=20) only[HB.out,L,O,J,qz,GE101.out]⟩
           ·rw[if_neg c53] at H;have c53b0:(a0_0 == 7)=false:=beq_eq_false_iff_ne.mpr c53;have c53b1:(a0_0 != 7)=true:=bne_iff_ne.mpr c53;obtain rfl:=Option.some.inj H;go_wp2
            repeat(go_quiet (fail);try go_wp2)
            go_ret
            exact⟨by first|rfl|(simp[*,zw,zv] <;> rfl),by solve_by_elim (maxDepth:=20) only[HB.out,L,O,J,qz,GE101.out]⟩
end Go.Proofs.YtkcdefnpbnbaeaaGreatDoor.Pr
namespace Go.Proofs.YtkcdefnpbnbaeaaGreatDoor.Pr
open Go.RowKit Go.Proofs.YtkcdefnpbnbaeaaGreatDoorW.PrintWords Go.Proofs.YtkcdefnpbnbaeaaGreatDoorW.PrintLast Go.Proofs.YtkcdefnpbnbaeaaGreatDoorW.PrintMore
attribute [local go_sem] max2_int min2_int max_two min_two max_three min_three max_four min_four
set_option linter.unusedVariables false
set_option linter.unusedSimpArgs false
def qvq.f (a0:Int) (a1:Int):Option (Int):=if a0 < a1 then(some (-1)) else(if a0 > a1 then(some 1) else(some 0))
theorem qvq.calls (a0:Int) (a1:Int) (r:Int) (w:World) (h:qvq.f a0 a1=some r) :
  Calls Tryz.prog 81 #[.int .i64 a0,.int .i64 a1] w fun e w'=>e=.returned (.int .i64 r)∧Drawn0 w w':=by
 unfold qvq.f at h;have H:=h;clear h
 by_cases c3:a0 < a1
 ·rw[if_pos c3] at H;have c3b0:decide (a0 < a1)=true:=decide_eq_true c3;clear c3;obtain rfl:=Option.some.inj H;go_enter Tryz.func81,Tryz.ntmps81;go_wp2;go_ret
  exact⟨by first|rfl|(simp;done)|(simp[*];done),by repeat(first|exact Drawn0.refl _|apply Drawn0.step)⟩
 ·rw[if_neg c3] at H;have c3b0:decide (a0 < a1)=false:=decide_eq_false c3;clear c3
  by_cases c4:a0 > a1
  ·rw[if_pos c4] at H;have c4b0:decide (a1 < a0)=true:=decide_eq_true c4;clear c4;obtain rfl:=Option.some.inj H;go_enter Tryz.func81,Tryz.ntmps81;go_wp2;go_ret
   exact⟨by first|rfl|(simp;done)|(simp[*];done),by repeat(first|exact Drawn0.refl _|apply Drawn0.step)⟩
  ·rw[if_neg c4] at H;have c4b0:decide (a1 < a0)=false:=decide_eq_false c4;clear c4;obtain rfl:=Option.some.inj H;go_enter Tryz.func81,Tryz.ntmps81;go_wp2;go_ret
   exact⟨by first|rfl|(simp;done)|(simp[*];done),by repeat(first|exact Drawn0.refl _|apply Drawn0.step)⟩
end Go.Proofs.YtkcdefnpbnbaeaaGreatDoor.Pr
namespace Go.Proofs.YtkcdefnpbnbaeaaGreatDoor.Pr
open Go.RowKit Go.Proofs.YtkcdefnpbnbaeaaGreatDoorW.PrintWords Go.Proofs.YtkcdefnpbnbaeaaGreatDoorW.PrintLast Go.Proofs.YtkcdefnpbnbaeaaGreatDoorW.PrintMore
attribute [local go_sem] max2_int min2_int max_two min_two max_three min_three max_four min_four
set_option linter.unusedVariables false
set_option linter.unusedSimpArgs false
mutual
def qvz.l0:Nat→ByteArray→ByteArray→Int→Option (Int)
 | 0,_,_,_=>none
 | k + 1,x0,x1,x5=>if x5 < (x0.size:Int) then(qvz.j1 k x0 x1 x5 (decide (x5 < (x1.size:Int)))) else(qvz.j1 k x0 x1 x5 false)
def qvz.j1:Nat→ByteArray→ByteArray→Int→Bool→Option (Int)
 | 0,_,_,_,_=>none
 | k + 1,x0,x1,x5,x15=>if x15=true then(if 0≤x5 then(if x5 < (x0.size:Int) then(if x5 < (x1.size:Int) then(if (bt x0 x5)=(bt x1 x5) then(qvz.l0 k x0 x1 (wrap64 (x5 + 1))) else((qvq.f (wrap64 (bt x0 x5)) (wrap64 (bt x1 x5))).bind fun t101=>(some t101))) else(none)) else(none)) else(none)) else((qvq.f (x0.size:Int) (x1.size:Int)).bind fun t102=>(some t102))
end
def qvz.f (k:Nat) (a0:ByteArray) (a1:ByteArray):Option (Int):=qvz.l0 k a0 a1 0
theorem qvz.calls (k:Nat) (a0:ByteArray) (a1:ByteArray) (r:Int) (w:World) (h:qvz.f k a0 a1=some r) :
  Calls Tryz.prog 55 #[.string a0,.string a1] w fun e w'=>e=.returned (.int .i64 r)∧Drawn0 w w':=by
 have H:(qvz.l0 k a0 a1 0)=some r:=h;clear h;have H':=U.mk H;clear H;go_enter Tryz.func55,Tryz.ntmps55;go_wp2
 repeat(go_quiet (fail);try go_wp2)
 go_loopg [5] k (fun kq v5 w'=>∃ (x5_1:Int),v5=.int .i64 x5_1∧U (qvz.l0 kq a0 a1 x5_1=some r)∧U (kq≤k)∧Drawn0 w w')
 case atStart=>exact⟨(0),(by first|rfl|(simp;done)|(simp[*];done)),H',⟨Nat.le_refl _⟩,by repeat(first|exact Drawn0.refl _|apply Drawn0.step)⟩
 case round =>
  clear H';try clear p2
  obtain⟨x5_1,rfl,HA,HK1,⟨m1,rfl⟩⟩:=hrel
  cases gk with
  | zero=>exact absurd HA.out (by simp[qvz.l0])
  | succ k1 =>
   have H:=HA.out;clear HA;simp only[qvz.l0] at H;have HC3:=U.mk H;clear H;go_upto_region 2 with (fail)
   repeat(go_quiet (fail);go_upto_region 2 with (fail))
   go_cut [15] (fun v15 wc=>∃ (kq:Nat) (x15_2:Bool),v15=.bool x15_2∧U (qvz.j1 kq a0 a1 x5_1 x15_2=some r)∧U (kq≤k1)∧Drawn0 w wc)
   case first =>
    have H:=HC3.out;clear HC3
    by_cases c4:x5_1 < (a0.size:Int)
    ·rw[if_pos c4] at H;have c4b0:decide (x5_1 < (a0.size:Int))=true:=decide_eq_true c4;clear c4
     (first|rw[c4b0]|(simp only[i64_w,i32_w];rw[c4b0])|skip)
     have H':=U.mk H;clear H;go_wp2
     repeat(go_quiet (fail);try go_wp2)
     go_meet
     case rel=>exact⟨_,(decide (x5_1 < (a1.size:Int))),(by first|rfl|(simp;done)|(simp[*];done)),H',⟨by have:=HK1.out;first|omega|exact Nat.le_refl _⟩,by repeat(first|exact Drawn0.refl _|apply Drawn0.step)⟩
    ·rw[if_neg c4] at H;have c4b0:decide (x5_1 < (a0.size:Int))=false:=decide_eq_false c4;clear c4
     (first|rw[c4b0]|(simp only[i64_w,i32_w];rw[c4b0])|skip)
     have H':=U.mk H;clear H;go_wp2
     repeat(go_quiet (fail);try go_wp2)
     go_meet
     case rel=>exact⟨_,(false),(by first|rfl|(simp;done)|(simp[*];done)),H',⟨by have:=HK1.out;first|omega|exact Nat.le_refl _⟩,by repeat(first|exact Drawn0.refl _|apply Drawn0.step)⟩
   case rest =>
    clear HC3;try clear p2 p2
    try clear c4
    try clear c4b0
    obtain⟨kq,x15_2,rfl,HA,HJ2,⟨mc2,rfl⟩⟩:=hcut
    cases kq with
    | zero=>exact absurd HA.out (by simp[qvz.j1])
    | succ kj2 =>
     have H:=HA.out;clear HA;simp only[qvz.j1] at H
     by_cases c5:x15_2=true
     ·subst c5;have H1:(if 0≤x5_1 then(if x5_1 < (a0.size:Int) then(if x5_1 < (a1.size:Int) then(if (bt a0 x5_1)=(bt a1 x5_1) then(qvz.l0 kj2 a0 a1 (wrap64 (x5_1 + 1))) else((qvq.f (wrap64 (bt a0 x5_1)) (wrap64 (bt a1 x5_1))).bind fun t101=>(some t101))) else(none)) else(none)) else(none))=some r:=by rw[if_pos rfl] at H;exact H
      clear H;have H:=H1;clear H1
      by_cases c6 : 0≤x5_1
      ·rw[if_pos c6] at H;have c6b0:decide (0≤x5_1)=true:=decide_eq_true c6;clear c6
       by_cases c7:x5_1 < (a0.size:Int)
       ·rw[if_pos c7] at H;have c7b0:decide (x5_1 < (a0.size:Int))=true:=decide_eq_true c7;clear c7
        by_cases c9:x5_1 < (a1.size:Int)
        ·rw[if_pos c9] at H;have c9b0:decide (x5_1 < (a1.size:Int))=true:=decide_eq_true c9;clear c9
         by_cases c11:(bt a0 x5_1)=(bt a1 x5_1)
         ·rw[if_pos c11] at H;have c11b0:((bt a0 x5_1) == (bt a1 x5_1))=true:=beq_iff_eq.mpr c11;have c11b1:((bt a0 x5_1) != (bt a1 x5_1))=false:=bne_eq_false_iff_eq.mpr c11;clear c11;have H':=U.mk H;clear H;have p8 : 0≤(x5_1:Int):=of_decide_eq_true (by assumption);have q8:x5_1 < (a0.size:Int):=of_decide_eq_true (by assumption);have hx8:=bt_at a0 x5_1;replace p8:=eq_true p8;replace q8:=eq_true q8;have p10 : 0≤(x5_1:Int):=of_decide_eq_true (by assumption);have q10:x5_1 < (a1.size:Int):=of_decide_eq_true (by assumption);have hx10:=bt_at a1 x5_1;replace p10:=eq_true p10;replace q10:=eq_true q10;go_wp2
          repeat(go_quiet (fail);try go_wp2)
          go_roundg kj2
          case measure=>have:=HK1.out;have:=HJ2.out;omega
          case rel=>exact⟨(wrap64 (x5_1 + 1)),(by first|rfl|(simp;done)|(simp[*];done)),H',⟨by have:=HK1.out;have:=HJ2.out;omega⟩,by repeat(first|exact Drawn0.refl _|apply Drawn0.step)⟩
         ·rw[if_neg c11] at H;have c11b0:((bt a0 x5_1) == (bt a1 x5_1))=false:=beq_eq_false_iff_ne.mpr c11;have c11b1:((bt a0 x5_1) != (bt a1 x5_1))=true:=bne_iff_ne.mpr c11;replace H:=jq8.mp H;obtain⟨t101,A140,H⟩:=H;replace H:(some t101)=some r:=H;have A14:=U.mk A140;clear A140;obtain rfl:=Option.some.inj H;have p8 : 0≤(x5_1:Int):=of_decide_eq_true (by assumption);have q8:x5_1 < (a0.size:Int):=of_decide_eq_true (by assumption);have hx8:=bt_at a0 x5_1;replace p8:=eq_true p8;replace q8:=eq_true q8;have p10 : 0≤(x5_1:Int):=of_decide_eq_true (by assumption);have q10:x5_1 < (a1.size:Int):=of_decide_eq_true (by assumption);have hx10:=bt_at a1 x5_1;replace p10:=eq_true p10;replace q10:=eq_true q10;have p12 : 0≤(x5_1:Int):=of_decide_eq_true (by assumption);have q12:x5_1 < (a0.size:Int):=of_decide_eq_true (by assumption);have hx12:=bt_at a0 x5_1;replace p12:=eq_true p12;replace q12:=eq_true q12;have p13 : 0≤(x5_1:Int):=of_decide_eq_true (by assumption);have q13:x5_1 < (a1.size:Int):=of_decide_eq_true (by assumption);have hx13:=bt_at a1 x5_1;replace p13:=eq_true p13;replace q13:=eq_true q13;go_wp2_with (first|(go_at_call 81;(with_reducible refine(qvq.calls (wrap64 (bt a0 x5_1)) (wrap64 (bt a1 x5_1)) t101 _ A14.out).mono ?_);rintro e w' ⟨rfl,⟨nd,rfl⟩⟩;(try first|exact⟨rfl,_,World.drewN_drewN _ _ _⟩|exact⟨rfl,_,Eq.trans (World.drewN_drewN _ _ _) (congrArg (World.drewN _) (Nat.add_assoc _ _ _))⟩)))
          repeat(go_quiet (first|(go_at_call 81;(with_reducible refine(qvq.calls (wrap64 (bt a0 x5_1)) (wrap64 (bt a1 x5_1)) t101 _ A14.out).mono ?_);rintro e w' ⟨rfl,⟨nd,rfl⟩⟩;(try first|exact⟨rfl,_,World.drewN_drewN _ _ _⟩|exact⟨rfl,_,Eq.trans (World.drewN_drewN _ _ _) (congrArg (World.drewN _) (Nat.add_assoc _ _ _))⟩)));try go_wp2_with (first|(go_at_call 81;(with_reducible refine(qvq.calls (wrap64 (bt a0 x5_1)) (wrap64 (bt a1 x5_1)) t101 _ A14.out).mono ?_);rintro e w' ⟨rfl,⟨nd,rfl⟩⟩;(try first|exact⟨rfl,_,World.drewN_drewN _ _ _⟩|exact⟨rfl,_,Eq.trans (World.drewN_drewN _ _ _) (congrArg (World.drewN _) (Nat.add_assoc _ _ _))⟩))))
          go_ret
          exact⟨by first|rfl|(simp;done)|(simp[*];done),by repeat(first|exact Drawn0.refl _|apply Drawn0.step)⟩
        ·rw[if_neg c9] at H;exact absurd H (by simp)
       ·rw[if_neg c7] at H;exact absurd H (by simp)
      ·rw[if_neg c6] at H;exact absurd H (by simp)
     ·replace c5:=jq9.mpr c5;subst c5;have H1:((qvq.f (a0.size:Int) (a1.size:Int)).bind fun t102=>(some t102))=some r:=by rw[if_neg (show ¬ (false=true) by decide)] at H;exact H
      clear H;have H:=H1;clear H1;replace H:=jq8.mp H;obtain⟨t102,A150,H⟩:=H;replace H:(some t102)=some r:=H;have A15:=U.mk A150;clear A150;obtain rfl:=Option.some.inj H;go_wp2_with (first|(go_at_call 81;(with_reducible refine(qvq.calls (a0.size:Int) (a1.size:Int) t102 _ A15.out).mono ?_);rintro e w' ⟨rfl,⟨nd,rfl⟩⟩;(try first|exact⟨rfl,_,World.drewN_drewN _ _ _⟩|exact⟨rfl,_,Eq.trans (World.drewN_drewN _ _ _) (congrArg (World.drewN _) (Nat.add_assoc _ _ _))⟩)))
      repeat(go_quiet (first|(go_at_call 81;(with_reducible refine(qvq.calls (a0.size:Int) (a1.size:Int) t102 _ A15.out).mono ?_);rintro e w' ⟨rfl,⟨nd,rfl⟩⟩;(try first|exact⟨rfl,_,World.drewN_drewN _ _ _⟩|exact⟨rfl,_,Eq.trans (World.drewN_drewN _ _ _) (congrArg (World.drewN _) (Nat.add_assoc _ _ _))⟩)));try go_wp2_with (first|(go_at_call 81;(with_reducible refine(qvq.calls (a0.size:Int) (a1.size:Int) t102 _ A15.out).mono ?_);rintro e w' ⟨rfl,⟨nd,rfl⟩⟩;(try first|exact⟨rfl,_,World.drewN_drewN _ _ _⟩|exact⟨rfl,_,Eq.trans (World.drewN_drewN _ _ _) (congrArg (World.drewN _) (Nat.add_assoc _ _ _))⟩))))
      go_ret
      exact⟨by first|rfl|(simp;done)|(simp[*];done),by repeat(first|exact Drawn0.refl _|apply Drawn0.step)⟩
end Go.Proofs.YtkcdefnpbnbaeaaGreatDoor.Pr
namespace Go.Proofs.YtkcdefnpbnbaeaaGreatDoor.Pr
open Go.RowKit Go.Proofs.YtkcdefnpbnbaeaaGreatDoorW.PrintWords Go.Proofs.YtkcdefnpbnbaeaaGreatDoorW.PrintLast Go.Proofs.YtkcdefnpbnbaeaaGreatDoorW.PrintMore
attribute [local go_sem] max2_int min2_int max_two min_two max_three min_three max_four min_four
set_option linter.unusedVariables false
set_option linter.unusedSimpArgs false
end Go.Proofs.YtkcdefnpbnbaeaaGreatDoor.Pr
namespace Go.Proofs.YtkcdefnpbnbaeaaGreatDoor.Pr
open Go.RowKit Go.Proofs.YtkcdefnpbnbaeaaGreatDoorW.PrintWords Go.Proofs.YtkcdefnpbnbaeaaGreatDoorW.PrintLast Go.Proofs.YtkcdefnpbnbaeaaGreatDoorW.PrintMore
attribute [local go_sem] max2_int min2_int max_two min_two max_three min_three max_four min_four
set_option linter.unusedVariables false
set_option linter.unusedSimpArgs false
theorem eqA30 (d:Nat) (w:World) (x0 y0:Int) (x1 y1:Int) (x2 y2:ByteArray) (x3 y3:ByteArray) :
  (Op.equalIn (d + 2) 30 (.agg #[.int .i64 x0,.int .i64 x1,.string x2,.string x3]) (.agg #[.int .i64 y0,.int .i64 y1,.string y2,.string y3])).run Tryz.prog w=.ok (x0 == y0 && (x1 == y1 && (x2.toList == y2.toList && (x3.toList == y3.toList)))) w:=by
 refine eqA_of Tryz.underlying30 (by kernel_rfl) ?_;refine eqf_cons (by rfl) (by go_simp;rfl) (by go_simp;rfl) (by go_simp) ?_;refine eqf_cons (by rfl) (by go_simp;rfl) (by go_simp;rfl) (by go_simp) ?_;refine eqf_cons (by rfl) (by go_simp;rfl) (by go_simp;rfl) (by go_simp) ?_;exact eqf_last (by rfl) (by go_simp;rfl) (by go_simp;rfl) (by go_simp)
end Go.Proofs.YtkcdefnpbnbaeaaGreatDoor.Pr
namespace Go.Proofs.YtkcdefnpbnbaeaaGreatDoor.Pr
open Go.RowKit Go.Proofs.YtkcdefnpbnbaeaaGreatDoorW.PrintWords Go.Proofs.YtkcdefnpbnbaeaaGreatDoorW.PrintLast Go.Proofs.YtkcdefnpbnbaeaaGreatDoorW.PrintMore
attribute [local go_sem] max2_int min2_int max_two min_two max_three min_three max_four min_four
set_option linter.unusedVariables false
set_option linter.unusedSimpArgs false
attribute [local go_sem high] eqA30
mutual
def qkj.j0:Nat→Bool→Int→Int→Int→ByteArray→ByteArray→List (S30)→List ByteArray→Option (Bool)
 | 0,_,_,_,_,_,_,_,_=>none
 | k + 1,x26,x102000,x102001,x102002,x102003,x102004,x102005,x102006=>if x26=true then(if (!(x102001 == 0) || (!(x102002 == 0) || (!(x102003.toList == ([]:List UInt8)) || (!(x102004.toList == ([]:List UInt8))))))=true then(qkj.j1 k true x102000 x102001 x102002 x102003 x102004 x102005 x102006) else(qkj.j1 k (decide ((x102005.length:Int) > 50)) x102000 x102001 x102002 x102003 x102004 x102005 x102006)) else(some false)
def qkj.j1:Nat→Bool→Int→Int→Int→ByteArray→ByteArray→List (S30)→List ByteArray→Option (Bool)
 | 0,_,_,_,_,_,_,_,_=>none
 | k + 1,x38,x102000,x102001,x102002,x102003,x102004,x102005,x102006=>if x38=true then(some false) else(qkj.l0 k x102005 (x102005.length:Int) 0 x102000 x102001 x102002 x102003 x102004 x102005 x102006)
def qkj.l0:Nat→List (S30)→Int→Int→Int→Int→Int→ByteArray→ByteArray→List (S30)→List ByteArray→Option (Bool)
 | 0,_,_,_,_,_,_,_,_,_,_=>none
 | k + 1,x40,x41,x42,x102000,x102001,x102002,x102003,x102004,x102005,x102006=>if x42 < x41 then(if 0≤x42 then(if x42 < (x40.length:Int) then((qkq.f k ((kw x40 x42).f0) ((kw x40 x42).f1) ((kw x40 x42).f2) ((kw x40 x42).f3)).bind fun t105=>(if t105=true then(if x102000=2 then(none) else(qkj.l0 k x40 x41 (wrap64 (x42 + 1)) x102000 x102001 x102002 x102003 x102004 x102005 x102006)) else(some false))) else(none)) else(none)) else(if x102000=2 then(none) else(if (x102006.length:Int)=(x102005.length:Int) then(qkj.l1 k x102006 (x102006.length:Int) 0 x102000 x102001 x102002 x102003 x102004 x102005 x102006) else(some false)))
def qkj.l1:Nat→List ByteArray→Int→Int→Int→Int→Int→ByteArray→ByteArray→List (S30)→List ByteArray→Option (Bool)
 | 0,_,_,_,_,_,_,_,_,_,_=>none
 | k + 1,x86,x87,x88,x102000,x102001,x102002,x102003,x102004,x102005,x102006=>if x88 < x87 then(if 0≤x88 then(if x88 < (x86.length:Int) then((qkz.f k (rdOf ByteArray.empty x86 x88)).bind fun t109=>(if t109=true then(if x88 > 0 then(if 0≤(wrap64 (x88 - 1)) then(if (wrap64 (x88 - 1)) < (x102006.length:Int) then((qvz.f k (rdOf ByteArray.empty x102006 (wrap64 (x88 - 1))) (rdOf ByteArray.empty x86 x88)).bind fun t111=>(if t111 ≥ 0 then(some false) else(qkj.l1 k x86 x87 (wrap64 (x88 + 1)) x102000 x102001 x102002 x102003 x102004 x102005 x102006))) else(none)) else(none)) else(qkj.l1 k x86 x87 (wrap64 (x88 + 1)) x102000 x102001 x102002 x102003 x102004 x102005 x102006)) else(some false))) else(none)) else(none)) else(some true)
end
def qkj.f (k:Nat) (a0_0:Int) (a0_1:Int) (a0_2:Int) (a0_3:ByteArray) (a0_4:ByteArray) (l0_5:List (S30)) (l0_6:List ByteArray):Option (Bool):=if a0_0=1 then(none) else(if a0_0=2 then(none) else(qkj.j0 k (a0_0 == 3) a0_0 a0_1 a0_2 a0_3 a0_4 l0_5 l0_6))
def qkj.T11:Bool × List (List Nat × List Nat):=(true,[([],[]),([0],[0]),([1],[1]),([2,1],[2]),([3],[3]),([4,3],[3,4]),([5,3],[3,5]),([6,3,3],[3,6]),([7],[7]),([8,7],[7,8]),([7,9,3],[3,7,9]),([10,7,3],[3,10]),([11],[11]),([12,11],[11,12]),([11],[11]),([14,11],[11,14]),([13,15,11],[11,13,15]),([16,11],[11,16]),([11],[11]),([17,18,11,11],[11,17,18]),([19,11],[11,19]),([11,20,3],[3,11,20]),([3,21],[3,21])])
def qkj.B11:List Nat:=[0,1,3,7,15,31,63,127,255,511,1023,2047,4095,8191,4095,20479,65535,131071,4095,524287,1048575,2097151,4194303]
theorem qkj.tab11:rtab .any (opsOf Tryz.f36 11)=qkj.T11:=by kernel_rfl
theorem qkj.bits11:waitsOk qkj.T11.2 qkj.B11=true:=by kernel_rfl
theorem qkj.calls (k:Nat) (a0_0:Int) (a0_1:Int) (a0_2:Int) (a0_3:ByteArray) (a0_4:ByteArray) (A0_5:Option Addr) (c0_5:Nat) (l0_5:List (S30)) (A0_6:Option Addr) (c0_6:Nat) (l0_6:List ByteArray) (r:Bool) (w:World) (hr0_5:Kd.C k30 w A0_5 l0_5.length l0_5) (hc0_5:l0_5.length≤c0_5) (hr0_6:Kd.C Kd.string w A0_6 l0_6.length l0_6) (hc0_6:l0_6.length≤c0_6) (h:qkj.f k a0_0 a0_1 a0_2 a0_3 a0_4 l0_5 l0_6=some r) :
  Calls Tryz.prog 36 #[.agg #[.int .i64 a0_0,.int .i64 a0_1,.int .i64 a0_2,.string a0_3,.string a0_4,.slice A0_5 l0_5.length c0_5,.slice A0_6 l0_6.length c0_6]] w fun e w'=>e=.returned (.bool r)∧Below w.heap.size w w':=by
 have hu33:=Tryz.underlying33;have hu30:=Tryz.underlying30;have HR0_5:=U.mk hr0_5;have HC0_5:=U.mk hc0_5;clear hr0_5 hc0_5;have HR0_6:=U.mk hr0_6;have HC0_6:=U.mk hc0_6;clear hr0_6 hc0_6;have HB:=U.mk (Below.refl w.heap.size w);unfold qkj.f at h;have H:=h;clear h
 by_cases c2:a0_0=1
 ·rw[if_pos c2] at H;exact absurd H (by simp)
 ·rw[if_neg c2] at H;have c2b0:(a0_0 == 1)=false:=beq_eq_false_iff_ne.mpr c2;have c2b1:(a0_0 != 1)=true:=bne_iff_ne.mpr c2;have HC17:=U.mk H;clear H;go_enter Tryz.func36,Tryz.ntmps36;go_upto_if 26 with (first|((with_reducible refine gate_dst (N:=1) rfl ?_);(try (refine gate_guard (by rfl) ?_;dsimp only));refine box_event ?hg (N:=1) ?hd (cs:=#[.int .i64 a0_0,.int .i64 a0_1,.int .i64 a0_2,.string a0_3,.string a0_4,.slice A0_5 l0_5.length c0_5,.slice A0_6 l0_6.length c0_6]) (t:=33) ?hr ?_;(case hd=>rfl);(case hg=>rfl);(case hr=>first|(go_simp;done)|(go_simp;rfl));intro gb101 hg w18 hbox hb;have BK101:=U.mk (hbox);have GW101:=U.mk ((by rw[hg];exact(zq (by solve_by_elim only[HB.out,L,O,J])):w.heap.size≤gb101));have GE101:=GW101;replace HB:=U.mk (qx (by solve_by_elim only[HB.out,L,O,J]) hb);clear hb hbox hg;obtain⟨y19_0,y19_1,y19_2,y19_3,y19_4,y19_5,y19_6,z19_0,z19_1,z19_2,z19_3,z19_4,z19_5,z19_6⟩:=bx7f BK101.out))
  (try simp only[Act.put,jq5,jq6,jq7])
  go_cut [26] (fun v26 wc=>∃ (kq:Nat) (x26_16:Bool),v26=.bool x26_16∧U (qkj.j0 kq x26_16 a0_0 a0_1 a0_2 a0_3 a0_4 l0_5 l0_6=some r)∧U (kq≤k)∧U (wc.heap[gb101]? = some (.cells #[.int .i64 a0_0,.int .i64 a0_1,.int .i64 a0_2,.string a0_3,.string a0_4,(.slice A0_5 l0_5.length c0_5),(.slice A0_6 l0_6.length c0_6)] 33 (0,0)))∧U (Below w.heap.size w wc))
  case first =>
   have H:=HC17.out;clear HC17
   by_cases c20:a0_0=2
   ·rw[if_pos c20] at H;exact absurd H (by simp)
   ·rw[if_neg c20] at H;have c20b0:(a0_0 == 2)=false:=beq_eq_false_iff_ne.mpr c20;have c20b1:(a0_0 != 2)=true:=bne_iff_ne.mpr c20
    (first|rw[c20b0]|(simp only[i64_w,i32_w];rw[c20b0])|skip)
    have H':=U.mk H;clear H;go_wp2;go_meet
    case rel=>exact⟨_,((a0_0 == 3)),(by first|rfl|(simp;done)|(simp[*];done)),H',⟨by first|omega|exact Nat.le_refl _⟩,⟨by(with_reducible repeat(first|refine qk ?_ _|refine qv ?_|refine qj ?_ _));exact BK101.out⟩,⟨by solve_by_elim (maxDepth:=20) only[HB.out,L,O,J,qz,GE101.out]⟩⟩
  case rest =>
   clear HC17;try clear c2
   try clear c2b0
   try clear c2b1
   try clear p2
   try clear c3
   try clear c4
   try clear c5
   try clear c5b0
   try clear c5b1
   try clear c5b2
   try clear c20
   try clear c20b0
   try clear c20b1
   try clear y11_0 y11_1 y11_2 y11_3 y11_4 y11_5 y11_6 z11_0 z11_1 z11_2 z11_3 z11_4 z11_5 z11_6
   try clear y13_0 y13_1 y13_2 y13_3 y13_4 y13_5 y13_6 z13_0 z13_1 z13_2 z13_3 z13_4 z13_5 z13_6
   try clear y15_0 y15_1 y15_2 y15_3 y15_4 y15_5 y15_6 z15_0 z15_1 z15_2 z15_3 z15_4 z15_5 z15_6
   try clear y19_0 y19_1 y19_2 y19_3 y19_4 y19_5 y19_6 z19_0 z19_1 z19_2 z19_3 z19_4 z19_5 z19_6
   try clear y7_0 y7_1 y7_2 y7_3 y7_4 y7_5 y7_6 z7_0 z7_1 z7_2 z7_3 z7_4 z7_5 z7_6
   try clear y9_0 y9_1 y9_2 y9_3 y9_4 y9_5 y9_6 z9_0 z9_1 z9_2 z9_3 z9_4 z9_5 z9_6
   obtain⟨kq,x26_16,rfl,HA,HJ16,BK101,HB⟩:=hcut
   cases kq with
   | zero=>exact absurd HA.out (by simp[qkj.j0])
   | succ kj16 =>
    have H:=HA.out;clear HA;simp only[qkj.j0] at H
    by_cases c21:x26_16=true
    ·subst c21;have H1:(if (!(a0_1 == 0) || (!(a0_2 == 0) || (!(a0_3.toList == ([]:List UInt8)) || (!(a0_4.toList == ([]:List UInt8))))))=true then(qkj.j1 kj16 true a0_0 a0_1 a0_2 a0_3 a0_4 l0_5 l0_6) else(qkj.j1 kj16 (decide ((l0_5.length:Int) > 50)) a0_0 a0_1 a0_2 a0_3 a0_4 l0_5 l0_6))=some r:=by rw[if_pos rfl] at H;exact H
     clear H;have H:=H1;clear H1;have HC22:=U.mk H;clear H;go_upto_region 6 with (fail)
     go_cut [38] (fun v38 wc=>∃ (kq:Nat) (x38_21:Bool),v38=.bool x38_21∧U (qkj.j1 kq x38_21 a0_0 a0_1 a0_2 a0_3 a0_4 l0_5 l0_6=some r)∧U (kq≤kj16)∧U (wc.heap[gb101]? = some (.cells #[.int .i64 a0_0,.int .i64 a0_1,.int .i64 a0_2,.string a0_3,.string a0_4,(.slice A0_5 l0_5.length c0_5),(.slice A0_6 l0_6.length c0_6)] 33 (0,0)))∧U (Below w.heap.size w wc))
     case first =>
      have H:=HC22.out;clear HC22
      by_cases c23:(!(a0_1 == 0) || (!(a0_2 == 0) || (!(a0_3.toList == ([]:List UInt8)) || (!(a0_4.toList == ([]:List UInt8))))))=true
      ·rw[if_pos c23] at H;have c23b0:(!(a0_1 == 0) || (!(a0_2 == 0) || (!(a0_3.toList == ([]:List UInt8)) || (!(a0_4.toList == ([]:List UInt8))))))=true:=c23;have c23b9:(!(a0_1 == 0) || (!(a0_2 == 0) || (!(a0_3.toList.isEmpty) || (!(a0_4.toList.isEmpty)))))=true:=by rw[← c23b0];cases a0_3.toList <;> cases a0_4.toList <;> rfl
       clear c23
       (first|rw[c23b0]|(simp only[i64_w,i32_w];rw[c23b0])|skip)
       have H':=U.mk H;clear H;obtain⟨y24_0,y24_1,y24_2,y24_3,y24_4,y24_5,y24_6,z24_0,z24_1,z24_2,z24_3,z24_4,z24_5,z24_6⟩:=bx7f BK101.out;go_wp2;go_meet
       case rel=>exact⟨_,(true),(by first|rfl|(simp;done)|(simp[*];done)),H',⟨by have:=HJ16.out;first|omega|exact Nat.le_refl _⟩,⟨by(with_reducible repeat(first|refine qk ?_ _|refine qv ?_|refine qj ?_ _));exact BK101.out⟩,⟨by solve_by_elim (maxDepth:=20) only[HB.out,L,O,J,qz,GE101.out]⟩⟩
      ·rw[if_neg c23] at H;have c23b0:(!(a0_1 == 0) || (!(a0_2 == 0) || (!(a0_3.toList == ([]:List UInt8)) || (!(a0_4.toList == ([]:List UInt8))))))=false:=jq9.2 c23;have c23b9:(!(a0_1 == 0) || (!(a0_2 == 0) || (!(a0_3.toList.isEmpty) || (!(a0_4.toList.isEmpty)))))=false:=by rw[← c23b0];cases a0_3.toList <;> cases a0_4.toList <;> rfl
       clear c23
       (first|rw[c23b0]|(simp only[i64_w,i32_w];rw[c23b0])|skip)
       have H':=U.mk H;clear H;obtain⟨y25_0,y25_1,y25_2,y25_3,y25_4,y25_5,y25_6,z25_0,z25_1,z25_2,z25_3,z25_4,z25_5,z25_6⟩:=bx7f BK101.out;go_wp2;go_meet
       case rel=>exact⟨_,(decide ((l0_5.length:Int) > 50)),(by first|rfl|(simp;done)|(simp[*];done)),H',⟨by have:=HJ16.out;first|omega|exact Nat.le_refl _⟩,⟨by(with_reducible repeat(first|refine qk ?_ _|refine qv ?_|refine qj ?_ _));exact BK101.out⟩,⟨by solve_by_elim (maxDepth:=20) only[HB.out,L,O,J,qz,GE101.out]⟩⟩
     case rest =>
      clear HC22;try clear c2
      try clear c2b0
      try clear c2b1
      try clear p2 p2
      try clear c3
      try clear c4
      try clear c5
      try clear c5b0
      try clear c5b1
      try clear c5b2
      try clear c20
      try clear c20b0
      try clear c20b1
      try clear c21
      try clear c23
      try clear c23b0
      try clear y11_0 y11_1 y11_2 y11_3 y11_4 y11_5 y11_6 z11_0 z11_1 z11_2 z11_3 z11_4 z11_5 z11_6
      try clear y13_0 y13_1 y13_2 y13_3 y13_4 y13_5 y13_6 z13_0 z13_1 z13_2 z13_3 z13_4 z13_5 z13_6
      try clear y15_0 y15_1 y15_2 y15_3 y15_4 y15_5 y15_6 z15_0 z15_1 z15_2 z15_3 z15_4 z15_5 z15_6
      try clear y19_0 y19_1 y19_2 y19_3 y19_4 y19_5 y19_6 z19_0 z19_1 z19_2 z19_3 z19_4 z19_5 z19_6
      try clear y24_0 y24_1 y24_2 y24_3 y24_4 y24_5 y24_6 z24_0 z24_1 z24_2 z24_3 z24_4 z24_5 z24_6
      try clear y25_0 y25_1 y25_2 y25_3 y25_4 y25_5 y25_6 z25_0 z25_1 z25_2 z25_3 z25_4 z25_5 z25_6
      try clear y7_0 y7_1 y7_2 y7_3 y7_4 y7_5 y7_6 z7_0 z7_1 z7_2 z7_3 z7_4 z7_5 z7_6
      try clear y9_0 y9_1 y9_2 y9_3 y9_4 y9_5 y9_6 z9_0 z9_1 z9_2 z9_3 z9_4 z9_5 z9_6
      obtain⟨kq,x38_21,rfl,HA,HJ21,BK101,HB⟩:=hcut
      cases kq with
      | zero=>exact absurd HA.out (by simp[qkj.j1])
      | succ kj21 =>
       have H:=HA.out;clear HA;simp only[qkj.j1] at H
       by_cases c26:x38_21=true
       ·subst c26;have H1:(some false)=some r:=by rw[if_pos rfl] at H;exact H
        clear H;have H:=H1;clear H1;obtain rfl:=Option.some.inj H;go_wp2;go_ret
        exact⟨by first|rfl|(simp[*,zw,zv] <;> rfl),by solve_by_elim (maxDepth:=20) only[HB.out,L,O,J,qz,GE101.out]⟩
       ·replace c26:=jq9.mpr c26;subst c26;have H1:(qkj.l0 kj21 l0_5 (l0_5.length:Int) 0 a0_0 a0_1 a0_2 a0_3 a0_4 l0_5 l0_6)=some r:=by rw[if_neg (show ¬ (false=true) by decide)] at H;exact H
        clear H;have H:=H1;clear H1;have H':=U.mk H;clear H;obtain⟨y27_0,y27_1,y27_2,y27_3,y27_4,y27_5,y27_6,z27_0,z27_1,z27_2,z27_3,z27_4,z27_5,z27_6⟩:=bx7f BK101.out;go_wp2
        go_loopg [42] kj21 (fun kq v42 w'=>∃ (x42_3:Int),v42=.int .i64 x42_3∧U (qkj.l0 kq l0_5 (l0_5.length:Int) x42_3 a0_0 a0_1 a0_2 a0_3 a0_4 l0_5 l0_6=some r)∧U (kq≤kj21)∧U (w'.heap[gb101]? = some (.cells #[.int .i64 a0_0,.int .i64 a0_1,.int .i64 a0_2,.string a0_3,.string a0_4,(.slice A0_5 l0_5.length c0_5),(.slice A0_6 l0_6.length c0_6)] 33 (0,0)))∧U (Below w.heap.size w w'))
        case atStart=>exact⟨(0),(by first|rfl|(simp;done)|(simp[*];done)),H',⟨Nat.le_refl _⟩,⟨by(with_reducible repeat(first|refine qk ?_ _|refine qv ?_|refine qj ?_ _));exact BK101.out⟩,⟨by solve_by_elim (maxDepth:=20) only[HB.out,L,O,J,qz,GE101.out]⟩⟩
        case round =>
         clear H';try clear c2
         try clear c2b0
         try clear c2b1
         try clear p2 p2
         try clear c3
         try clear c4
         try clear c5
         try clear c5b0
         try clear c5b1
         try clear c5b2
         try clear c20
         try clear c20b0
         try clear c20b1
         try clear c21
         try clear c23
         try clear c23b0
         try clear c26
         try clear y11_0 y11_1 y11_2 y11_3 y11_4 y11_5 y11_6 z11_0 z11_1 z11_2 z11_3 z11_4 z11_5 z11_6
         try clear y13_0 y13_1 y13_2 y13_3 y13_4 y13_5 y13_6 z13_0 z13_1 z13_2 z13_3 z13_4 z13_5 z13_6
         try clear y15_0 y15_1 y15_2 y15_3 y15_4 y15_5 y15_6 z15_0 z15_1 z15_2 z15_3 z15_4 z15_5 z15_6
         try clear y19_0 y19_1 y19_2 y19_3 y19_4 y19_5 y19_6 z19_0 z19_1 z19_2 z19_3 z19_4 z19_5 z19_6
         try clear y24_0 y24_1 y24_2 y24_3 y24_4 y24_5 y24_6 z24_0 z24_1 z24_2 z24_3 z24_4 z24_5 z24_6
         try clear y25_0 y25_1 y25_2 y25_3 y25_4 y25_5 y25_6 z25_0 z25_1 z25_2 z25_3 z25_4 z25_5 z25_6
         try clear y27_0 y27_1 y27_2 y27_3 y27_4 y27_5 y27_6 z27_0 z27_1 z27_2 z27_3 z27_4 z27_5 z27_6
         try clear y7_0 y7_1 y7_2 y7_3 y7_4 y7_5 y7_6 z7_0 z7_1 z7_2 z7_3 z7_4 z7_5 z7_6
         try clear y9_0 y9_1 y9_2 y9_3 y9_4 y9_5 y9_6 z9_0 z9_1 z9_2 z9_3 z9_4 z9_5 z9_6
         obtain⟨x42_3,rfl,HA,HK3,BK101,HB⟩:=hrel
         cases gk with
         | zero=>exact absurd HA.out (by simp[qkj.l0])
         | succ k3 =>
          have H:=HA.out;clear HA;simp only[qkj.l0] at H
          by_cases c28:x42_3 < (l0_5.length:Int)
          ·rw[if_pos c28] at H;have c28b0:decide (x42_3 < (l0_5.length:Int))=true:=decide_eq_true c28;clear c28
           by_cases c29 : 0≤x42_3
           ·rw[if_pos c29] at H;have c29b0:decide (0≤x42_3)=true:=decide_eq_true c29;clear c29
            by_cases c30:x42_3 < (l0_5.length:Int)
            ·rw[if_pos c30] at H;have c30b0:decide (x42_3 < (l0_5.length:Int))=true:=decide_eq_true c30;clear c30;replace H:=jq8.mp H;obtain⟨t105,A310,H⟩:=H;try dsimp only at H
             have A31:=U.mk A310;clear A310
             by_cases c32:t105=true
             ·subst c32;have H1:(if a0_0=2 then(none) else(qkj.l0 k3 l0_5 (l0_5.length:Int) (wrap64 (x42_3 + 1)) a0_0 a0_1 a0_2 a0_3 a0_4 l0_5 l0_6))=some r:=by rw[if_pos rfl] at H;exact H
              clear H;have H:=H1;clear H1
              by_cases c33:a0_0=2
              ·rw[if_pos c33] at H;exact absurd H (by simp)
              ·rw[if_neg c33] at H;have c33b0:(a0_0 == 2)=false:=beq_eq_false_iff_ne.mpr c33;have c33b1:(a0_0 != 2)=true:=bne_iff_ne.mpr c33;have H':=U.mk H;clear H;have p103 : 0≤(x42_3:Int):=of_decide_eq_true (by assumption);have q103:x42_3 < (l0_5.length:Int):=of_decide_eq_true (by assumption);obtain⟨ad103,e103,hx103_0,hx103_1,hx103_2,hx103_3⟩:=at_T30 HR0_5.out x42_3 p103 q103
               cases e103
               replace hx103_0:=(HB.out.cell (World.block_lt_of_cell? w _ hx103_0)).trans hx103_0;replace hx103_1:=(HB.out.cell (World.block_lt_of_cell? w _ hx103_1)).trans hx103_1;replace hx103_2:=(HB.out.cell (World.block_lt_of_cell? w _ hx103_2)).trans hx103_2;replace hx103_3:=(HB.out.cell (World.block_lt_of_cell? w _ hx103_3)).trans hx103_3;replace p103:=eq_true p103;replace q103:=eq_true q103;try go_wp2_with (first|((with_reducible refine gate_dst (N:=4) rfl ?_);(try (refine gate_guard (by rfl) ?_;dsimp only));refine box_event ?hg (N:=4) ?hd (cs:=#[.int .i64 0,.int .i64 0,.string (⟨#[]⟩ : ByteArray),.string (⟨#[]⟩ : ByteArray)]) (t:=30) ?hr ?_;(case hd=>rfl);(case hg=>rfl);(case hr=>first|(go_simp;done)|(go_simp;rfl));intro gb104 hg w60 hbox hb;have BK104:=U.mk (hbox);have GW104:=U.mk ((by rw[hg];exact(zq (by solve_by_elim (maxDepth:=20) only[HB.out,L,O,J,qz,GE101.out])):w.heap.size≤gb104));have GE104:=GW104;replace HB:=U.mk (qx (by solve_by_elim (maxDepth:=20) only[HB.out,L,O,J,qz,GE101.out]) hb);have NB101_104:=U.mk ((by rw[hg];exact Nat.ne_of_lt (blk_lt (by solve_by_elim only[BK101.out,qk,qv,qj])):gb101≠gb104));have NB104_101:=U.mk ((by rw[hg];exact Nat.ne_of_gt (blk_lt (by solve_by_elim only[BK101.out,qk,qv,qj])):gb104≠gb101));replace BK101:=U.mk (jx (by solve_by_elim only[BK101.out,qk,qv,qj]) hb);clear hb hbox hg;have hnb61:=NB104_101.out;have hnc61:=NB101_104.out;obtain⟨y62_0,y62_1,y62_2,y62_3,z62_0,z62_1,z62_2,z62_3⟩:=bx4f BK104.out))
               have n0_:U (((((w60.setCell ⟨gb104,0,none⟩ (.int .i64 ((kw l0_5 x42_3).f0))).setCell ⟨gb104,1,none⟩ (.int .i64 ((kw l0_5 x42_3).f1))).setCell ⟨gb104,2,none⟩ (.string ((kw l0_5 x42_3).f2))).setCell ⟨gb104,3,none⟩ (.string ((kw l0_5 x42_3).f3))).heap[gb101]? = some (.cells #[.int .i64 a0_0,.int .i64 a0_1,.int .i64 a0_2,.string a0_3,.string a0_4,.slice (some ad103) l0_5.length c0_5,.slice A0_6 l0_6.length c0_6] 33 (0,0))):=⟨by(with_reducible repeat(first|refine qk ?_ _|refine qv ?_|refine qj ?_ _));refine blk_far ?_ NB101_104.out _;(with_reducible repeat(first|refine qk ?_ _|refine qv ?_|refine qj ?_ _));refine blk_far ?_ NB101_104.out _;(with_reducible repeat(first|refine qk ?_ _|refine qv ?_|refine qj ?_ _));refine blk_far ?_ NB101_104.out _;(with_reducible repeat(first|refine qk ?_ _|refine qv ?_|refine qj ?_ _));refine blk_far ?_ NB101_104.out _;(with_reducible repeat(first|refine qk ?_ _|refine qv ?_|refine qj ?_ _));exact BK101.out⟩;have n1_:U (((((w60.setCell ⟨gb104,0,none⟩ (.int .i64 ((kw l0_5 x42_3).f0))).setCell ⟨gb104,1,none⟩ (.int .i64 ((kw l0_5 x42_3).f1))).setCell ⟨gb104,2,none⟩ (.string ((kw l0_5 x42_3).f2))).setCell ⟨gb104,3,none⟩ (.string ((kw l0_5 x42_3).f3))).heap[gb104]? = some (.cells #[.int .i64 ((kw l0_5 x42_3).f0),.int .i64 ((kw l0_5 x42_3).f1),.string ((kw l0_5 x42_3).f2),.string ((kw l0_5 x42_3).f3)] 30 (0,0))):=⟨by(with_reducible repeat(first|refine qk ?_ _|refine qv ?_|refine qj ?_ _));refine blk_put (cs:=#[.int .i64 ((kw l0_5 x42_3).f0),.int .i64 ((kw l0_5 x42_3).f1),.string ((kw l0_5 x42_3).f2),.string (⟨#[]⟩ : ByteArray)]) ?_ 3 _ rfl;(with_reducible repeat(first|refine qk ?_ _|refine qv ?_|refine qj ?_ _));refine blk_put (cs:=#[.int .i64 ((kw l0_5 x42_3).f0),.int .i64 ((kw l0_5 x42_3).f1),.string (⟨#[]⟩ : ByteArray),.string (⟨#[]⟩ : ByteArray)]) ?_ 2 _ rfl;(with_reducible repeat(first|refine qk ?_ _|refine qv ?_|refine qj ?_ _));refine blk_put (cs:=#[.int .i64 ((kw l0_5 x42_3).f0),.int .i64 0,.string (⟨#[]⟩ : ByteArray),.string (⟨#[]⟩ : ByteArray)]) ?_ 1 _ rfl;(with_reducible repeat(first|refine qk ?_ _|refine qv ?_|refine qj ?_ _));refine blk_put (cs:=#[.int .i64 0,.int .i64 0,.string (⟨#[]⟩ : ByteArray),.string (⟨#[]⟩ : ByteArray)]) ?_ 0 _ rfl;(with_reducible repeat(first|refine qk ?_ _|refine qv ?_|refine qj ?_ _));exact BK104.out⟩;have n2_:U (Below w.heap.size w ((((w60.setCell ⟨gb104,0,none⟩ (.int .i64 ((kw l0_5 x42_3).f0))).setCell ⟨gb104,1,none⟩ (.int .i64 ((kw l0_5 x42_3).f1))).setCell ⟨gb104,2,none⟩ (.string ((kw l0_5 x42_3).f2))).setCell ⟨gb104,3,none⟩ (.string ((kw l0_5 x42_3).f3)))):=⟨by repeat(first|(with_reducible first|exact HB.out|apply L|apply O|apply J|refine qz ?_ GE101.out|refine qz ?_ GE104.out)|exact HB.out)⟩
               (try clear BK101)
               (try clear BK104)
               (try clear HB)
               generalize ((((w60.setCell ⟨gb104,0,none⟩ (.int .i64 ((kw l0_5 x42_3).f0))).setCell ⟨gb104,1,none⟩ (.int .i64 ((kw l0_5 x42_3).f1))).setCell ⟨gb104,2,none⟩ (.string ((kw l0_5 x42_3).f2))).setCell ⟨gb104,3,none⟩ (.string ((kw l0_5 x42_3).f3)))=w63 at n0_ n1_ n2_ ⊢;have BK101:=n0_;have BK104:=n1_;have HB:=n2_;clear n0_ n1_ n2_;replace BK101:=U.mk (qv BK101.out);replace BK104:=U.mk (qv BK104.out);replace HB:=U.mk (J HB.out);refine start_ (n:=23) (S:=fun w'=>w'.cell? ⟨gb104,0,none⟩ = some (.int .i64 ((kw l0_5 x42_3).f0))∧w'.cell? ⟨gb104,1,none⟩ = some (.int .i64 ((kw l0_5 x42_3).f1))∧w'.cell? ⟨gb104,2,none⟩ = some (.string ((kw l0_5 x42_3).f2))∧w'.cell? ⟨gb104,3,none⟩ = some (.string ((kw l0_5 x42_3).f3))∧w'.cell? ⟨gb101,0,none⟩ = some (.int .i64 a0_0)∧w'.cell? ⟨gb101,1,none⟩ = some (.int .i64 a0_1)∧w'.cell? ⟨gb101,2,none⟩ = some (.int .i64 a0_2)∧w'.cell? ⟨gb101,3,none⟩ = some (.string a0_3)∧w'.cell? ⟨gb101,4,none⟩ = some (.string a0_4)∧w'.cell? ⟨gb101,5,none⟩ = some (.slice (some ad103) l0_5.length c0_5)∧w'.cell? ⟨gb101,6,none⟩ = some (.slice A0_6 l0_6.length c0_6)) (ds:=[]) #[Y,Y,Y,Y,Y,Y,Y,Y,Y,Y,Y,Y,Y,Y,Y,Y,Y,Y,Y,Y,Y,Y,Y] (by kernel_rfl) rfl rfl ⟨(qq BK104.out 0).trans rfl,(qq BK104.out 1).trans rfl,(qq BK104.out 2).trans rfl,(qq BK104.out 3).trans rfl,(qq BK101.out 0).trans rfl,(qq BK101.out 1).trans rfl,(qq BK101.out 2).trans rfl,(qq BK101.out 3).trans rfl,(qq BK101.out 4).trans rfl,(qq BK101.out 5).trans rfl,(qq BK101.out 6).trans rfl⟩ (fun hHeld=>?_);refine with_tabW qkj.tab11 qkj.bits11 (fun HT_ HW_=>?_)
               generalize w63.drew=w64 at BK101 BK104 HB hHeld ⊢;refine take_ (i:=0) (N:=some 47) (v:=?_) (a':=?_) #[Z,Y,Y,Y,Y,Y,Y,Y,Y,Y,Y,Y,Y,Y,Y,Y,Y,Y,Y,Y,Y,Y,Y] rfl rfl (take_ofW HT_.out HW_.out (by kernel_rfl)) (fun _ _ _ h=>h) (Or.inl ⟨by rfl,?_⟩) hHeld ?_ ?_;rotate_left
               ·rintro w' ⟨s0,s1,s2,s3,s4,s5,s6,s7,s8,s9,s10⟩
                go_simp
                with_reducible rfl
               rotate_left
               ·simp only[Act.put,jq5,jq6,jq7,i64_w,i32_w]
                rfl
               refine one_ (i:=1) (N:=some 48) #[Z,Z,Y,Y,Y,Y,Y,Y,Y,Y,Y,Y,Y,Y,Y,Y,Y,Y,Y,Y,Y,Y,Y] rfl rfl (one_of HT_.out (by kernel_rfl)) (by decide) (fun K hK=>?_);refine goes_ Tryz.func52 (by kernel_rfl) rfl #[.agg #[.int .i64 ((kw l0_5 x42_3).f0),.int .i64 ((kw l0_5 x42_3).f1),.string ((kw l0_5 x42_3).f2),.string ((kw l0_5 x42_3).f3)]] (by rfl) rfl rfl (by(try simp only[jq0,jq1,jq2]);first|done|rfl|(simp only[jq3,jq4];rfl)) ?_
               with_reducible refine(qkq.calls k3 ((kw l0_5 x42_3).f0) ((kw l0_5 x42_3).f1) ((kw l0_5 x42_3).f2) ((kw l0_5 x42_3).f3) true _ A31.out).mono ?_
               rintro e w65 ⟨rfl,hb⟩
               refine⟨_,rfl,?_⟩;replace BK101:=U.mk (jx (by solve_by_elim only[BK101.out,qk,qv,qj]) hb);replace BK104:=U.mk (jx (by solve_by_elim only[BK104.out,qk,qv,qj]) hb);replace HB:=U.mk (qx (by repeat(first|(with_reducible first|exact HB.out|apply L|apply O|apply J|refine qz ?_ GE101.out|refine qz ?_ GE104.out)|exact HB.out)) hb)
               (try clear hb)
               (try clear hb2)
               (try clear hk)
               (try clear hi)
               refine hK.out _ _ (by(repeat' apply And.intro) <;> first|exact(qq BK104.out _).trans rfl|exact(qq BK101.out _).trans rfl) (fun hHeld=>?_);clear hK K;refine norm_ (a':=?_) ?_ ?_;rotate_left
               ·show Act.put _ (some 48) _=_
                simp only[Act.put,jq5,jq6,jq7,i64_w,i32_w]
                rfl
               refine pure_ (i:=2) (N:=some 49) (v:=?_) (a':=?_) #[Z,Z,Z,Y,Y,Y,Y,Y,Y,Y,Y,Y,Y,Y,Y,Y,Y,Y,Y,Y,Y,Y,Y] rfl rfl (any_of HT_.out (by kernel_rfl)) (fun _ _ _ h=>h) (Or.inl ⟨by rfl,?_⟩) ?_ ?_;rotate_left
               ·intro w'
                go_simp
                with_reducible rfl
               rotate_left
               ·simp only[Act.put,jq5,jq6,jq7,i64_w,i32_w]
                rfl
               refine pure_ (i:=3) (N:=some 50) (v:=?_) (a':=?_) #[Z,Z,Z,Z,Y,Y,Y,Y,Y,Y,Y,Y,Y,Y,Y,Y,Y,Y,Y,Y,Y,Y,Y] rfl rfl (any_of HT_.out (by kernel_rfl)) (fun _ _ _ h=>h) (Or.inl ⟨by rfl,?_⟩) ?_ ?_;rotate_left
               ·intro w'
                go_simp
                with_reducible rfl
               rotate_left
               ·simp only[Act.put,jq5,jq6,jq7,i64_w,i32_w]
                rfl
               refine pure_ (i:=4) (N:=some 51) (v:=?_) (a':=?_) #[Z,Z,Z,Z,Z,Y,Y,Y,Y,Y,Y,Y,Y,Y,Y,Y,Y,Y,Y,Y,Y,Y,Y] rfl rfl (any_of HT_.out (by kernel_rfl)) (fun _ _ _ h=>h) (Or.inl ⟨by rfl,?_⟩) ?_ ?_;rotate_left
               ·intro w'
                go_simp
                with_reducible rfl
               rotate_left
               ·simp only[Act.put,jq5,jq6,jq7,i64_w,i32_w]
                rfl
               refine take_ (i:=5) (N:=some 52) (v:=?_) (a':=?_) #[Z,Z,Z,Z,Z,Z,Y,Y,Y,Y,Y,Y,Y,Y,Y,Y,Y,Y,Y,Y,Y,Y,Y] rfl rfl (take_ofW HT_.out HW_.out (by kernel_rfl)) (fun _ _ _ h=>h) (Or.inl ⟨by rfl,?_⟩) hHeld ?_ ?_;rotate_left
               ·rintro w' ⟨s0,s1,s2,s3,s4,s5,s6,s7,s8,s9,s10⟩
                go_simp
                with_reducible rfl
               rotate_left
               ·simp only[Act.put,jq5,jq6,jq7,i64_w,i32_w]
                rfl
               refine pure_ (i:=6) (N:=some 53) (v:=?_) (a':=?_) #[Z,Z,Z,Z,Z,Z,Z,Y,Y,Y,Y,Y,Y,Y,Y,Y,Y,Y,Y,Y,Y,Y,Y] rfl rfl (any_of HT_.out (by kernel_rfl)) (fun _ _ _ h=>h) (Or.inl ⟨by rfl,?_⟩) ?_ ?_;rotate_left
               ·intro w'
                go_simp
                with_reducible rfl
               rotate_left
               ·simp only[Act.put,jq5,jq6,jq7,i64_w,i32_w]
                rfl
               refine pure_ (i:=7) (N:=some 54) (v:=?_) (a':=?_) #[Z,Z,Z,Z,Z,Z,Z,Z,Y,Y,Y,Y,Y,Y,Y,Y,Y,Y,Y,Y,Y,Y,Y] rfl rfl (any_of HT_.out (by kernel_rfl)) (fun _ _ _ h=>h) (Or.inl ⟨by rfl,?_⟩) ?_ ?_;rotate_left
               ·intro w'
                go_simp
                with_reducible rfl
               rotate_left
               ·simp only[Act.put,jq5,jq6,jq7,i64_w,i32_w]
                rfl
               refine pure_ (i:=8) (N:=some 55) (v:=undef) (a':=?_) #[Z,Z,Z,Z,Z,Z,Z,Z,Z,Y,Y,Y,Y,Y,Y,Y,Y,Y,Y,Y,Y,Y,Y] rfl rfl (any_of HT_.out (by kernel_rfl)) (fun _ _ _ h=>h) (Or.inr ⟨by rfl,rfl⟩) ?_ ?_;rotate_left
               ·simp only[Act.put,jq5,jq6,jq7,i64_w,i32_w]
                rfl
               refine pure_ (i:=9) (N:=some 56) (v:=undef) (a':=?_) #[Z,Z,Z,Z,Z,Z,Z,Z,Z,Z,Y,Y,Y,Y,Y,Y,Y,Y,Y,Y,Y,Y,Y] rfl rfl (any_of HT_.out (by kernel_rfl)) (fun _ _ _ h=>h) (Or.inr ⟨by rfl,rfl⟩) ?_ ?_;rotate_left
               ·simp only[Act.put,jq5,jq6,jq7,i64_w,i32_w]
                rfl
               refine pure_ (i:=10) (N:=some 57) (v:=?_) (a':=?_) #[Z,Z,Z,Z,Z,Z,Z,Z,Z,Z,Z,Y,Y,Y,Y,Y,Y,Y,Y,Y,Y,Y,Y] rfl rfl (any_of HT_.out (by kernel_rfl)) (fun _ _ _ h=>h) (Or.inl ⟨by rfl,?_⟩) ?_ ?_;rotate_left
               ·intro w'
                go_simp
                with_reducible rfl
               rotate_left
               ·simp only[Act.put,jq5,jq6,jq7,i64_w,i32_w]
                rfl
               refine pure_ (i:=11) (N:=some 58) (v:=?_) (a':=?_) #[Z,Z,Z,Z,Z,Z,Z,Z,Z,Z,Z,Z,Y,Y,Y,Y,Y,Y,Y,Y,Y,Y,Y] rfl rfl (any_of HT_.out (by kernel_rfl)) (fun _ _ _ h=>h) (Or.inl ⟨by rfl,?_⟩) ?_ ?_;rotate_left
               ·intro w'
                go_simp
                with_reducible rfl
               rotate_left
               ·simp only[Act.put,jq5,jq6,jq7,i64_w,i32_w]
                rfl
               refine pure_ (i:=12) (N:=some 59) (v:=undef) (a':=?_) #[Z,Z,Z,Z,Z,Z,Z,Z,Z,Z,Z,Z,Z,Y,Y,Y,Y,Y,Y,Y,Y,Y,Y] rfl rfl (any_of HT_.out (by kernel_rfl)) (fun _ _ _ h=>h) (Or.inr ⟨by rfl,rfl⟩) ?_ ?_;rotate_left
               ·simp only[Act.put,jq5,jq6,jq7,i64_w,i32_w]
                rfl
               refine pure_ (i:=13) (N:=some 60) (v:=undef) (a':=?_) #[Z,Z,Z,Z,Z,Z,Z,Z,Z,Z,Z,Z,Z,Z,Y,Y,Y,Y,Y,Y,Y,Y,Y] rfl rfl (any_of HT_.out (by kernel_rfl)) (fun _ _ _ h=>h) (Or.inr ⟨by rfl,rfl⟩) ?_ ?_;rotate_left
               ·simp only[Act.put,jq5,jq6,jq7,i64_w,i32_w]
                rfl
               refine pure_ (i:=14) (N:=some 61) (v:=undef) (a':=?_) #[Z,Z,Z,Z,Z,Z,Z,Z,Z,Z,Z,Z,Z,Z,Z,Y,Y,Y,Y,Y,Y,Y,Y] rfl rfl (any_of HT_.out (by kernel_rfl)) (fun _ _ _ h=>h) (Or.inr ⟨by rfl,rfl⟩) ?_ ?_;rotate_left
               ·simp only[Act.put,jq5,jq6,jq7,i64_w,i32_w]
                rfl
               refine pure_ (i:=15) (N:=some 62) (v:=undef) (a':=?_) #[Z,Z,Z,Z,Z,Z,Z,Z,Z,Z,Z,Z,Z,Z,Z,Z,Y,Y,Y,Y,Y,Y,Y] rfl rfl (any_of HT_.out (by kernel_rfl)) (fun _ _ _ h=>h) (Or.inr ⟨by rfl,rfl⟩) ?_ ?_;rotate_left
               ·simp only[Act.put,jq5,jq6,jq7,i64_w,i32_w]
                rfl
               refine pure_ (i:=16) (N:=some 63) (v:=undef) (a':=?_) #[Z,Z,Z,Z,Z,Z,Z,Z,Z,Z,Z,Z,Z,Z,Z,Z,Z,Y,Y,Y,Y,Y,Y] rfl rfl (any_of HT_.out (by kernel_rfl)) (fun _ _ _ h=>h) (Or.inr ⟨by rfl,rfl⟩) ?_ ?_;rotate_left
               ·simp only[Act.put,jq5,jq6,jq7,i64_w,i32_w]
                rfl
               refine pure_ (i:=17) (N:=some 64) (v:=undef) (a':=?_) #[Z,Z,Z,Z,Z,Z,Z,Z,Z,Z,Z,Z,Z,Z,Z,Z,Z,Z,Y,Y,Y,Y,Y] rfl rfl (any_of HT_.out (by kernel_rfl)) (fun _ _ _ h=>h) (Or.inr ⟨by rfl,rfl⟩) ?_ ?_;rotate_left
               ·simp only[Act.put,jq5,jq6,jq7,i64_w,i32_w]
                rfl
               refine pure_ (i:=18) (N:=some 65) (v:=undef) (a':=?_) #[Z,Z,Z,Z,Z,Z,Z,Z,Z,Z,Z,Z,Z,Z,Z,Z,Z,Z,Z,Y,Y,Y,Y] rfl rfl (any_of HT_.out (by kernel_rfl)) (fun _ _ _ h=>h) (Or.inr ⟨by rfl,rfl⟩) ?_ ?_;rotate_left
               ·simp only[Act.put,jq5,jq6,jq7,i64_w,i32_w]
                rfl
               refine pure_ (i:=19) (N:=some 66) (v:=undef) (a':=?_) #[Z,Z,Z,Z,Z,Z,Z,Z,Z,Z,Z,Z,Z,Z,Z,Z,Z,Z,Z,Z,Y,Y,Y] rfl rfl (any_of HT_.out (by kernel_rfl)) (fun _ _ _ h=>h) (Or.inr ⟨by rfl,rfl⟩) ?_ ?_;rotate_left
               ·simp only[Act.put,jq5,jq6,jq7,i64_w,i32_w]
                rfl
               refine pure_ (i:=20) (N:=some 67) (v:=undef) (a':=?_) #[Z,Z,Z,Z,Z,Z,Z,Z,Z,Z,Z,Z,Z,Z,Z,Z,Z,Z,Z,Z,Z,Y,Y] rfl rfl (any_of HT_.out (by kernel_rfl)) (fun _ _ _ h=>h) (Or.inr ⟨by rfl,rfl⟩) ?_ ?_;rotate_left
               ·simp only[Act.put,jq5,jq6,jq7,i64_w,i32_w]
                rfl
               refine pure_ (i:=21) (N:=some 68) (v:=?_) (a':=?_) #[Z,Z,Z,Z,Z,Z,Z,Z,Z,Z,Z,Z,Z,Z,Z,Z,Z,Z,Z,Z,Z,Z,Y] rfl rfl (any_of HT_.out (by kernel_rfl)) (fun _ _ _ h=>h) (Or.inl ⟨by rfl,?_⟩) ?_ ?_;rotate_left
               ·intro w'
                go_simp
                with_reducible rfl
               rotate_left
               ·simp only[Act.put,jq5,jq6,jq7,i64_w,i32_w]
                rfl
               refine pure_ (i:=22) (N:=some 69) (v:=?_) (a':=?_) #[Z,Z,Z,Z,Z,Z,Z,Z,Z,Z,Z,Z,Z,Z,Z,Z,Z,Z,Z,Z,Z,Z,Z] rfl rfl (any_of HT_.out (by kernel_rfl)) (fun _ _ _ h=>h) (Or.inl ⟨by rfl,?_⟩) ?_ ?_;rotate_left
               ·intro w'
                go_simp
                with_reducible rfl
               rotate_left
               ·simp only[Act.put,jq5,jq6,jq7,i64_w,i32_w]
                rfl
               refine done_ (done_of HT_.out (by kernel_rfl)) ?_;try go_wp2
               go_roundg k3
               case measure=>have:=HJ16.out;have:=HJ21.out;have:=HK3.out;omega
               case rel=>exact⟨(wrap64 (x42_3 + 1)),(by first|rfl|(simp;done)|(simp[*];done)),H',⟨by have:=HJ16.out;have:=HJ21.out;have:=HK3.out;omega⟩,⟨by(with_reducible repeat(first|refine qk ?_ _|refine qv ?_|refine qj ?_ _));exact BK101.out⟩,⟨by repeat(first|(with_reducible first|exact HB.out|apply L|apply O|apply J|refine qz ?_ GE101.out|refine qz ?_ GE104.out)|exact HB.out)⟩⟩
             ·replace c32:=jq9.mpr c32;subst c32;have H1:(some false)=some r:=by rw[if_neg (show ¬ (false=true) by decide)] at H;exact H
              clear H;have H:=H1;clear H1;obtain rfl:=Option.some.inj H;have p103 : 0≤(x42_3:Int):=of_decide_eq_true (by assumption);have q103:x42_3 < (l0_5.length:Int):=of_decide_eq_true (by assumption);obtain⟨ad103,e103,hx103_0,hx103_1,hx103_2,hx103_3⟩:=at_T30 HR0_5.out x42_3 p103 q103
              cases e103
              replace hx103_0:=(HB.out.cell (World.block_lt_of_cell? w _ hx103_0)).trans hx103_0;replace hx103_1:=(HB.out.cell (World.block_lt_of_cell? w _ hx103_1)).trans hx103_1;replace hx103_2:=(HB.out.cell (World.block_lt_of_cell? w _ hx103_2)).trans hx103_2;replace hx103_3:=(HB.out.cell (World.block_lt_of_cell? w _ hx103_3)).trans hx103_3;replace p103:=eq_true p103;replace q103:=eq_true q103;try go_wp2_with (first|((with_reducible refine gate_dst (N:=4) rfl ?_);(try (refine gate_guard (by rfl) ?_;dsimp only));refine box_event ?hg (N:=4) ?hd (cs:=#[.int .i64 0,.int .i64 0,.string (⟨#[]⟩ : ByteArray),.string (⟨#[]⟩ : ByteArray)]) (t:=30) ?hr ?_;(case hd=>rfl);(case hg=>rfl);(case hr=>first|(go_simp;done)|(go_simp;rfl));intro gb104 hg w66 hbox hb;have BK104:=U.mk (hbox);have GW104:=U.mk ((by rw[hg];exact(zq (by solve_by_elim (maxDepth:=20) only[HB.out,L,O,J,qz,GE101.out])):w.heap.size≤gb104));have GE104:=GW104;replace HB:=U.mk (qx (by solve_by_elim (maxDepth:=20) only[HB.out,L,O,J,qz,GE101.out]) hb);have NB101_104:=U.mk ((by rw[hg];exact Nat.ne_of_lt (blk_lt (by solve_by_elim only[BK101.out,qk,qv,qj])):gb101≠gb104));have NB104_101:=U.mk ((by rw[hg];exact Nat.ne_of_gt (blk_lt (by solve_by_elim only[BK101.out,qk,qv,qj])):gb104≠gb101));replace BK101:=U.mk (jx (by solve_by_elim only[BK101.out,qk,qv,qj]) hb);clear hb hbox hg;have hnb67:=NB104_101.out;have hnc67:=NB101_104.out;obtain⟨y68_0,y68_1,y68_2,y68_3,z68_0,z68_1,z68_2,z68_3⟩:=bx4f BK104.out))
              have n0_:U (((((w66.setCell ⟨gb104,0,none⟩ (.int .i64 ((kw l0_5 x42_3).f0))).setCell ⟨gb104,1,none⟩ (.int .i64 ((kw l0_5 x42_3).f1))).setCell ⟨gb104,2,none⟩ (.string ((kw l0_5 x42_3).f2))).setCell ⟨gb104,3,none⟩ (.string ((kw l0_5 x42_3).f3))).heap[gb101]? = some (.cells #[.int .i64 a0_0,.int .i64 a0_1,.int .i64 a0_2,.string a0_3,.string a0_4,.slice (some ad103) l0_5.length c0_5,.slice A0_6 l0_6.length c0_6] 33 (0,0))):=⟨by(with_reducible repeat(first|refine qk ?_ _|refine qv ?_|refine qj ?_ _));refine blk_far ?_ NB101_104.out _;(with_reducible repeat(first|refine qk ?_ _|refine qv ?_|refine qj ?_ _));refine blk_far ?_ NB101_104.out _;(with_reducible repeat(first|refine qk ?_ _|refine qv ?_|refine qj ?_ _));refine blk_far ?_ NB101_104.out _;(with_reducible repeat(first|refine qk ?_ _|refine qv ?_|refine qj ?_ _));refine blk_far ?_ NB101_104.out _;(with_reducible repeat(first|refine qk ?_ _|refine qv ?_|refine qj ?_ _));exact BK101.out⟩;have n1_:U (((((w66.setCell ⟨gb104,0,none⟩ (.int .i64 ((kw l0_5 x42_3).f0))).setCell ⟨gb104,1,none⟩ (.int .i64 ((kw l0_5 x42_3).f1))).setCell ⟨gb104,2,none⟩ (.string ((kw l0_5 x42_3).f2))).setCell ⟨gb104,3,none⟩ (.string ((kw l0_5 x42_3).f3))).heap[gb104]? = some (.cells #[.int .i64 ((kw l0_5 x42_3).f0),.int .i64 ((kw l0_5 x42_3).f1),.string ((kw l0_5 x42_3).f2),.string ((kw l0_5 x42_3).f3)] 30 (0,0))):=⟨by(with_reducible repeat(first|refine qk ?_ _|refine qv ?_|refine qj ?_ _));refine blk_put (cs:=#[.int .i64 ((kw l0_5 x42_3).f0),.int .i64 ((kw l0_5 x42_3).f1),.string ((kw l0_5 x42_3).f2),.string (⟨#[]⟩ : ByteArray)]) ?_ 3 _ rfl;(with_reducible repeat(first|refine qk ?_ _|refine qv ?_|refine qj ?_ _));refine blk_put (cs:=#[.int .i64 ((kw l0_5 x42_3).f0),.int .i64 ((kw l0_5 x42_3).f1),.string (⟨#[]⟩ : ByteArray),.string (⟨#[]⟩ : ByteArray)]) ?_ 2 _ rfl;(with_reducible repeat(first|refine qk ?_ _|refine qv ?_|refine qj ?_ _));refine blk_put (cs:=#[.int .i64 ((kw l0_5 x42_3).f0),.int .i64 0,.string (⟨#[]⟩ : ByteArray),.string (⟨#[]⟩ : ByteArray)]) ?_ 1 _ rfl;(with_reducible repeat(first|refine qk ?_ _|refine qv ?_|refine qj ?_ _));refine blk_put (cs:=#[.int .i64 0,.int .i64 0,.string (⟨#[]⟩ : ByteArray),.string (⟨#[]⟩ : ByteArray)]) ?_ 0 _ rfl;(with_reducible repeat(first|refine qk ?_ _|refine qv ?_|refine qj ?_ _));exact BK104.out⟩;have n2_:U (Below w.heap.size w ((((w66.setCell ⟨gb104,0,none⟩ (.int .i64 ((kw l0_5 x42_3).f0))).setCell ⟨gb104,1,none⟩ (.int .i64 ((kw l0_5 x42_3).f1))).setCell ⟨gb104,2,none⟩ (.string ((kw l0_5 x42_3).f2))).setCell ⟨gb104,3,none⟩ (.string ((kw l0_5 x42_3).f3)))):=⟨by repeat(first|(with_reducible first|exact HB.out|apply L|apply O|apply J|refine qz ?_ GE101.out|refine qz ?_ GE104.out)|exact HB.out)⟩
              (try clear BK101)
              (try clear BK104)
              (try clear HB)
              generalize ((((w66.setCell ⟨gb104,0,none⟩ (.int .i64 ((kw l0_5 x42_3).f0))).setCell ⟨gb104,1,none⟩ (.int .i64 ((kw l0_5 x42_3).f1))).setCell ⟨gb104,2,none⟩ (.string ((kw l0_5 x42_3).f2))).setCell ⟨gb104,3,none⟩ (.string ((kw l0_5 x42_3).f3)))=w69 at n0_ n1_ n2_ ⊢;have BK101:=n0_;have BK104:=n1_;have HB:=n2_;clear n0_ n1_ n2_;replace BK101:=U.mk (qv BK101.out);replace BK104:=U.mk (qv BK104.out);replace HB:=U.mk (J HB.out);refine start_ (n:=23) (S:=fun w'=>w'.cell? ⟨gb104,0,none⟩ = some (.int .i64 ((kw l0_5 x42_3).f0))∧w'.cell? ⟨gb104,1,none⟩ = some (.int .i64 ((kw l0_5 x42_3).f1))∧w'.cell? ⟨gb104,2,none⟩ = some (.string ((kw l0_5 x42_3).f2))∧w'.cell? ⟨gb104,3,none⟩ = some (.string ((kw l0_5 x42_3).f3))) (ds:=[]) #[Y,Y,Y,Y,Y,Y,Y,Y,Y,Y,Y,Y,Y,Y,Y,Y,Y,Y,Y,Y,Y,Y,Y] (by kernel_rfl) rfl rfl ⟨(qq BK104.out 0).trans rfl,(qq BK104.out 1).trans rfl,(qq BK104.out 2).trans rfl,(qq BK104.out 3).trans rfl⟩ (fun hHeld=>?_);refine with_tabW qkj.tab11 qkj.bits11 (fun HT_ HW_=>?_)
              generalize w69.drew=w70 at BK101 BK104 HB hHeld ⊢;refine take_ (i:=0) (N:=some 47) (v:=?_) (a':=?_) #[Z,Y,Y,Y,Y,Y,Y,Y,Y,Y,Y,Y,Y,Y,Y,Y,Y,Y,Y,Y,Y,Y,Y] rfl rfl (take_ofW HT_.out HW_.out (by kernel_rfl)) (fun _ _ _ h=>h) (Or.inl ⟨by rfl,?_⟩) hHeld ?_ ?_;rotate_left
              ·rintro w' ⟨s0,s1,s2,s3⟩
               go_simp
               with_reducible rfl
              rotate_left
              ·simp only[Act.put,jq5,jq6,jq7,i64_w,i32_w]
               rfl
              refine one_ (i:=1) (N:=some 48) #[Z,Z,Y,Y,Y,Y,Y,Y,Y,Y,Y,Y,Y,Y,Y,Y,Y,Y,Y,Y,Y,Y,Y] rfl rfl (one_of HT_.out (by kernel_rfl)) (by decide) (fun K hK=>?_);refine goes_ Tryz.func52 (by kernel_rfl) rfl #[.agg #[.int .i64 ((kw l0_5 x42_3).f0),.int .i64 ((kw l0_5 x42_3).f1),.string ((kw l0_5 x42_3).f2),.string ((kw l0_5 x42_3).f3)]] (by rfl) rfl rfl (by(try simp only[jq0,jq1,jq2]);first|done|rfl|(simp only[jq3,jq4];rfl)) ?_
              with_reducible refine(qkq.calls k3 ((kw l0_5 x42_3).f0) ((kw l0_5 x42_3).f1) ((kw l0_5 x42_3).f2) ((kw l0_5 x42_3).f3) false _ A31.out).mono ?_
              rintro e w71 ⟨rfl,hb⟩
              refine⟨_,rfl,?_⟩;replace BK101:=U.mk (jx (by solve_by_elim only[BK101.out,qk,qv,qj]) hb);replace BK104:=U.mk (jx (by solve_by_elim only[BK104.out,qk,qv,qj]) hb);replace HB:=U.mk (qx (by repeat(first|(with_reducible first|exact HB.out|apply L|apply O|apply J|refine qz ?_ GE101.out|refine qz ?_ GE104.out)|exact HB.out)) hb)
              (try clear hb)
              (try clear hb2)
              (try clear hk)
              (try clear hi)
              refine hK.out _ _ (by(repeat' apply And.intro) <;> first|exact(qq BK104.out _).trans rfl) (fun hHeld=>?_);clear hK K;refine norm_ (a':=?_) ?_ ?_;rotate_left
              ·show Act.put _ (some 48) _=_
               simp only[Act.put,jq5,jq6,jq7,i64_w,i32_w]
               rfl
              refine pure_ (i:=2) (N:=some 49) (v:=?_) (a':=?_) #[Z,Z,Z,Y,Y,Y,Y,Y,Y,Y,Y,Y,Y,Y,Y,Y,Y,Y,Y,Y,Y,Y,Y] rfl rfl (any_of HT_.out (by kernel_rfl)) (fun _ _ _ h=>h) (Or.inl ⟨by rfl,?_⟩) ?_ ?_;rotate_left
              ·intro w'
               go_simp
               with_reducible rfl
              rotate_left
              ·simp only[Act.put,jq5,jq6,jq7,i64_w,i32_w]
               rfl
              refine pure_ (i:=3) (N:=some 50) (v:=?_) (a':=?_) #[Z,Z,Z,Z,Y,Y,Y,Y,Y,Y,Y,Y,Y,Y,Y,Y,Y,Y,Y,Y,Y,Y,Y] rfl rfl (any_of HT_.out (by kernel_rfl)) (fun _ _ _ h=>h) (Or.inl ⟨by rfl,?_⟩) ?_ ?_;rotate_left
              ·intro w'
               go_simp
               with_reducible rfl
              rotate_left
              ·simp only[Act.put,jq5,jq6,jq7,i64_w,i32_w]
               rfl
              refine pure_ (i:=4) (N:=some 51) (v:=undef) (a':=?_) #[Z,Z,Z,Z,Z,Y,Y,Y,Y,Y,Y,Y,Y,Y,Y,Y,Y,Y,Y,Y,Y,Y,Y] rfl rfl (any_of HT_.out (by kernel_rfl)) (fun _ _ _ h=>h) (Or.inr ⟨by rfl,rfl⟩) ?_ ?_;rotate_left
              ·simp only[Act.put,jq5,jq6,jq7,i64_w,i32_w]
               rfl
              refine pure_ (i:=5) (N:=some 52) (v:=undef) (a':=?_) #[Z,Z,Z,Z,Z,Z,Y,Y,Y,Y,Y,Y,Y,Y,Y,Y,Y,Y,Y,Y,Y,Y,Y] rfl rfl (any_of HT_.out (by kernel_rfl)) (fun _ _ _ h=>h) (Or.inr ⟨by rfl,rfl⟩) ?_ ?_;rotate_left
              ·simp only[Act.put,jq5,jq6,jq7,i64_w,i32_w]
               rfl
              refine pure_ (i:=6) (N:=some 53) (v:=undef) (a':=?_) #[Z,Z,Z,Z,Z,Z,Z,Y,Y,Y,Y,Y,Y,Y,Y,Y,Y,Y,Y,Y,Y,Y,Y] rfl rfl (any_of HT_.out (by kernel_rfl)) (fun _ _ _ h=>h) (Or.inr ⟨by rfl,rfl⟩) ?_ ?_;rotate_left
              ·simp only[Act.put,jq5,jq6,jq7,i64_w,i32_w]
               rfl
              refine pure_ (i:=7) (N:=some 54) (v:=undef) (a':=?_) #[Z,Z,Z,Z,Z,Z,Z,Z,Y,Y,Y,Y,Y,Y,Y,Y,Y,Y,Y,Y,Y,Y,Y] rfl rfl (any_of HT_.out (by kernel_rfl)) (fun _ _ _ h=>h) (Or.inr ⟨by rfl,rfl⟩) ?_ ?_;rotate_left
              ·simp only[Act.put,jq5,jq6,jq7,i64_w,i32_w]
               rfl
              refine pure_ (i:=8) (N:=some 55) (v:=undef) (a':=?_) #[Z,Z,Z,Z,Z,Z,Z,Z,Z,Y,Y,Y,Y,Y,Y,Y,Y,Y,Y,Y,Y,Y,Y] rfl rfl (any_of HT_.out (by kernel_rfl)) (fun _ _ _ h=>h) (Or.inr ⟨by rfl,rfl⟩) ?_ ?_;rotate_left
              ·simp only[Act.put,jq5,jq6,jq7,i64_w,i32_w]
               rfl
              refine pure_ (i:=9) (N:=some 56) (v:=undef) (a':=?_) #[Z,Z,Z,Z,Z,Z,Z,Z,Z,Z,Y,Y,Y,Y,Y,Y,Y,Y,Y,Y,Y,Y,Y] rfl rfl (any_of HT_.out (by kernel_rfl)) (fun _ _ _ h=>h) (Or.inr ⟨by rfl,rfl⟩) ?_ ?_;rotate_left
              ·simp only[Act.put,jq5,jq6,jq7,i64_w,i32_w]
               rfl
              refine pure_ (i:=10) (N:=some 57) (v:=undef) (a':=?_) #[Z,Z,Z,Z,Z,Z,Z,Z,Z,Z,Z,Y,Y,Y,Y,Y,Y,Y,Y,Y,Y,Y,Y] rfl rfl (any_of HT_.out (by kernel_rfl)) (fun _ _ _ h=>h) (Or.inr ⟨by rfl,rfl⟩) ?_ ?_;rotate_left
              ·simp only[Act.put,jq5,jq6,jq7,i64_w,i32_w]
               rfl
              refine pure_ (i:=11) (N:=some 58) (v:=undef) (a':=?_) #[Z,Z,Z,Z,Z,Z,Z,Z,Z,Z,Z,Z,Y,Y,Y,Y,Y,Y,Y,Y,Y,Y,Y] rfl rfl (any_of HT_.out (by kernel_rfl)) (fun _ _ _ h=>h) (Or.inr ⟨by rfl,rfl⟩) ?_ ?_;rotate_left
              ·simp only[Act.put,jq5,jq6,jq7,i64_w,i32_w]
               rfl
              refine pure_ (i:=12) (N:=some 59) (v:=undef) (a':=?_) #[Z,Z,Z,Z,Z,Z,Z,Z,Z,Z,Z,Z,Z,Y,Y,Y,Y,Y,Y,Y,Y,Y,Y] rfl rfl (any_of HT_.out (by kernel_rfl)) (fun _ _ _ h=>h) (Or.inr ⟨by rfl,rfl⟩) ?_ ?_;rotate_left
              ·simp only[Act.put,jq5,jq6,jq7,i64_w,i32_w]
               rfl
              refine pure_ (i:=13) (N:=some 60) (v:=undef) (a':=?_) #[Z,Z,Z,Z,Z,Z,Z,Z,Z,Z,Z,Z,Z,Z,Y,Y,Y,Y,Y,Y,Y,Y,Y] rfl rfl (any_of HT_.out (by kernel_rfl)) (fun _ _ _ h=>h) (Or.inr ⟨by rfl,rfl⟩) ?_ ?_;rotate_left
              ·simp only[Act.put,jq5,jq6,jq7,i64_w,i32_w]
               rfl
              refine pure_ (i:=14) (N:=some 61) (v:=undef) (a':=?_) #[Z,Z,Z,Z,Z,Z,Z,Z,Z,Z,Z,Z,Z,Z,Z,Y,Y,Y,Y,Y,Y,Y,Y] rfl rfl (any_of HT_.out (by kernel_rfl)) (fun _ _ _ h=>h) (Or.inr ⟨by rfl,rfl⟩) ?_ ?_;rotate_left
              ·simp only[Act.put,jq5,jq6,jq7,i64_w,i32_w]
               rfl
              refine pure_ (i:=15) (N:=some 62) (v:=undef) (a':=?_) #[Z,Z,Z,Z,Z,Z,Z,Z,Z,Z,Z,Z,Z,Z,Z,Z,Y,Y,Y,Y,Y,Y,Y] rfl rfl (any_of HT_.out (by kernel_rfl)) (fun _ _ _ h=>h) (Or.inr ⟨by rfl,rfl⟩) ?_ ?_;rotate_left
              ·simp only[Act.put,jq5,jq6,jq7,i64_w,i32_w]
               rfl
              refine pure_ (i:=16) (N:=some 63) (v:=undef) (a':=?_) #[Z,Z,Z,Z,Z,Z,Z,Z,Z,Z,Z,Z,Z,Z,Z,Z,Z,Y,Y,Y,Y,Y,Y] rfl rfl (any_of HT_.out (by kernel_rfl)) (fun _ _ _ h=>h) (Or.inr ⟨by rfl,rfl⟩) ?_ ?_;rotate_left
              ·simp only[Act.put,jq5,jq6,jq7,i64_w,i32_w]
               rfl
              refine pure_ (i:=17) (N:=some 64) (v:=undef) (a':=?_) #[Z,Z,Z,Z,Z,Z,Z,Z,Z,Z,Z,Z,Z,Z,Z,Z,Z,Z,Y,Y,Y,Y,Y] rfl rfl (any_of HT_.out (by kernel_rfl)) (fun _ _ _ h=>h) (Or.inr ⟨by rfl,rfl⟩) ?_ ?_;rotate_left
              ·simp only[Act.put,jq5,jq6,jq7,i64_w,i32_w]
               rfl
              refine pure_ (i:=18) (N:=some 65) (v:=undef) (a':=?_) #[Z,Z,Z,Z,Z,Z,Z,Z,Z,Z,Z,Z,Z,Z,Z,Z,Z,Z,Z,Y,Y,Y,Y] rfl rfl (any_of HT_.out (by kernel_rfl)) (fun _ _ _ h=>h) (Or.inr ⟨by rfl,rfl⟩) ?_ ?_;rotate_left
              ·simp only[Act.put,jq5,jq6,jq7,i64_w,i32_w]
               rfl
              refine pure_ (i:=19) (N:=some 66) (v:=undef) (a':=?_) #[Z,Z,Z,Z,Z,Z,Z,Z,Z,Z,Z,Z,Z,Z,Z,Z,Z,Z,Z,Z,Y,Y,Y] rfl rfl (any_of HT_.out (by kernel_rfl)) (fun _ _ _ h=>h) (Or.inr ⟨by rfl,rfl⟩) ?_ ?_;rotate_left
              ·simp only[Act.put,jq5,jq6,jq7,i64_w,i32_w]
               rfl
              refine pure_ (i:=20) (N:=some 67) (v:=undef) (a':=?_) #[Z,Z,Z,Z,Z,Z,Z,Z,Z,Z,Z,Z,Z,Z,Z,Z,Z,Z,Z,Z,Z,Y,Y] rfl rfl (any_of HT_.out (by kernel_rfl)) (fun _ _ _ h=>h) (Or.inr ⟨by rfl,rfl⟩) ?_ ?_;rotate_left
              ·simp only[Act.put,jq5,jq6,jq7,i64_w,i32_w]
               rfl
              refine pure_ (i:=21) (N:=some 68) (v:=undef) (a':=?_) #[Z,Z,Z,Z,Z,Z,Z,Z,Z,Z,Z,Z,Z,Z,Z,Z,Z,Z,Z,Z,Z,Z,Y] rfl rfl (any_of HT_.out (by kernel_rfl)) (fun _ _ _ h=>h) (Or.inr ⟨by rfl,rfl⟩) ?_ ?_;rotate_left
              ·simp only[Act.put,jq5,jq6,jq7,i64_w,i32_w]
               rfl
              refine pure_ (i:=22) (N:=some 69) (v:=?_) (a':=?_) #[Z,Z,Z,Z,Z,Z,Z,Z,Z,Z,Z,Z,Z,Z,Z,Z,Z,Z,Z,Z,Z,Z,Z] rfl rfl (any_of HT_.out (by kernel_rfl)) (fun _ _ _ h=>h) (Or.inl ⟨by rfl,?_⟩) ?_ ?_;rotate_left
              ·intro w'
               go_simp
               with_reducible rfl
              rotate_left
              ·simp only[Act.put,jq5,jq6,jq7,i64_w,i32_w]
               rfl
              refine done_ (done_of HT_.out (by kernel_rfl)) ?_;try go_wp2
              go_ret
              exact⟨by first|rfl|(simp[*,zw,zv] <;> rfl),by repeat(first|(with_reducible first|exact HB.out|apply L|apply O|apply J|refine qz ?_ GE101.out|refine qz ?_ GE104.out)|exact HB.out)⟩
            ·rw[if_neg c30] at H;exact absurd H (by simp)
           ·rw[if_neg c29] at H;exact absurd H (by simp)
          ·rw[if_neg c28] at H;have c28b0:decide (x42_3 < (l0_5.length:Int))=false:=decide_eq_false c28;clear c28
           by_cases c72:a0_0=2
           ·rw[if_pos c72] at H;exact absurd H (by simp)
           ·rw[if_neg c72] at H;have c72b0:(a0_0 == 2)=false:=beq_eq_false_iff_ne.mpr c72;have c72b1:(a0_0 != 2)=true:=bne_iff_ne.mpr c72
            by_cases c74:(l0_6.length:Int)=(l0_5.length:Int)
            ·rw[if_pos c74] at H;have c74b0:((l0_6.length:Int) == (l0_5.length:Int))=true:=beq_iff_eq.mpr c74;have c74b1:((l0_6.length:Int) != (l0_5.length:Int))=false:=bne_eq_false_iff_eq.mpr c74;have c74b2:(l0_6.length == l0_5.length)=true:=by first|simpa using c74|(simp at c74 ⊢;omega)
             clear c74;have H':=U.mk H;clear H;obtain⟨y75_0,y75_1,y75_2,y75_3,y75_4,y75_5,y75_6,z75_0,z75_1,z75_2,z75_3,z75_4,z75_5,z75_6⟩:=bx7f BK101.out;go_wp2
             go_loopg [88] k3 (fun kq v88 w'=>∃ (x88_4:Int),v88=.int .i64 x88_4∧U (qkj.l1 kq l0_6 (l0_6.length:Int) x88_4 a0_0 a0_1 a0_2 a0_3 a0_4 l0_5 l0_6=some r)∧U (kq≤k3)∧U (w'.heap[gb101]? = some (.cells #[.int .i64 a0_0,.int .i64 a0_1,.int .i64 a0_2,.string a0_3,.string a0_4,(.slice A0_5 l0_5.length c0_5),(.slice A0_6 l0_6.length c0_6)] 33 (0,0)))∧U (Below w.heap.size w w'))
             case atStart=>exact⟨(0),(by first|rfl|(simp;done)|(simp[*];done)),H',⟨Nat.le_refl _⟩,⟨by(with_reducible repeat(first|refine qk ?_ _|refine qv ?_|refine qj ?_ _));exact BK101.out⟩,⟨by solve_by_elim (maxDepth:=20) only[HB.out,L,O,J,qz,GE101.out]⟩⟩
             case round =>
              clear H';try clear p1
              try clear q1
              try clear hx1
              try clear c2
              try clear p2
              try clear c3
              try clear c5
              try clear c6
              try clear p6
              try clear c7
              try clear p10
              try clear q10
              try clear hx10
              try clear c28
              try clear c28b0
              try clear c29
              try clear c30
              try clear c32
              try clear c33
              try clear c33b0
              try clear c33b1
              try clear c52
              try clear c61
              try clear p64
              try clear c67
              try clear c72
              try clear c72b0
              try clear c72b1
              try clear c74
              try clear c74b0
              try clear c74b1
              try clear c74b2
              try clear y62_0 y62_1 y62_2 y62_3 z62_0 z62_1 z62_2 z62_3
              try clear y68_0 y68_1 y68_2 y68_3 z68_0 z68_1 z68_2 z68_3
              try clear y73_0 y73_1 y73_2 y73_3 y73_4 y73_5 y73_6 z73_0 z73_1 z73_2 z73_3 z73_4 z73_5 z73_6
              try clear y75_0 y75_1 y75_2 y75_3 y75_4 y75_5 y75_6 z75_0 z75_1 z75_2 z75_3 z75_4 z75_5 z75_6
              try clear hx103_0
              try clear hx103_1
              try clear hx103_2
              try clear hx103_3
              try clear p103
              try clear q103
              obtain⟨x88_4,rfl,HA,HK4,BK101,HB⟩:=hrel
              cases gk with
              | zero=>exact absurd HA.out (by simp[qkj.l1])
              | succ k4 =>
               have H:=HA.out;clear HA;simp only[qkj.l1] at H
               by_cases c76:x88_4 < (l0_6.length:Int)
               ·rw[if_pos c76] at H;have c76b0:decide (x88_4 < (l0_6.length:Int))=true:=decide_eq_true c76;clear c76
                by_cases c77 : 0≤x88_4
                ·rw[if_pos c77] at H;have c77b0:decide (0≤x88_4)=true:=decide_eq_true c77;clear c77
                 by_cases c78:x88_4 < (l0_6.length:Int)
                 ·rw[if_pos c78] at H;have c78b0:decide (x88_4 < (l0_6.length:Int))=true:=decide_eq_true c78;clear c78;replace H:=jq8.mp H;obtain⟨t109,A790,H⟩:=H;try dsimp only at H
                  have A79:=U.mk A790;clear A790
                  by_cases c80:t109=true
                  ·subst c80;have H1:(if x88_4 > 0 then(if 0≤(wrap64 (x88_4 - 1)) then(if (wrap64 (x88_4 - 1)) < (l0_6.length:Int) then((qvz.f k4 (rdOf ByteArray.empty l0_6 (wrap64 (x88_4 - 1))) (rdOf ByteArray.empty l0_6 x88_4)).bind fun t111=>(if t111 ≥ 0 then(some false) else(qkj.l1 k4 l0_6 (l0_6.length:Int) (wrap64 (x88_4 + 1)) a0_0 a0_1 a0_2 a0_3 a0_4 l0_5 l0_6))) else(none)) else(none)) else(qkj.l1 k4 l0_6 (l0_6.length:Int) (wrap64 (x88_4 + 1)) a0_0 a0_1 a0_2 a0_3 a0_4 l0_5 l0_6))=some r:=by rw[if_pos rfl] at H;exact H
                   clear H;have H:=H1;clear H1
                   by_cases c81:x88_4 > 0
                   ·rw[if_pos c81] at H;have c81b0:decide (0 < x88_4)=true:=decide_eq_true c81;clear c81;obtain⟨ji82,hji82⟩ : ∃ j_:Int,(wrap64 (x88_4 - 1))=j_:=⟨_,rfl⟩;replace H:(if 0≤(ji82) then(if (ji82) < (l0_6.length:Int) then((qvz.f k4 (rdOf ByteArray.empty l0_6 (ji82)) (rdOf ByteArray.empty l0_6 x88_4)).bind fun t111=>(if t111 ≥ 0 then(some false) else(qkj.l1 k4 l0_6 (l0_6.length:Int) (wrap64 (x88_4 + 1)) a0_0 a0_1 a0_2 a0_3 a0_4 l0_5 l0_6))) else(none)) else(none))=some r:=by first|(rw[hji82] at H;exact H)|(simp only[hji82] at H ⊢;exact H)
                    (try rw[hji82] at A79)
                    have hji82w:(IntKind.i64.wrap (x88_4 - 1))=ji82:=(i64_w _).trans hji82
                    by_cases c83 : 0≤(ji82)
                    ·rw[if_pos c83] at H;have c83b0:decide (0≤(ji82))=true:=decide_eq_true c83;clear c83
                     by_cases c84:(ji82) < (l0_6.length:Int)
                     ·rw[if_pos c84] at H;have c84b0:decide ((ji82) < (l0_6.length:Int))=true:=decide_eq_true c84;clear c84;replace H:=jq8.mp H;obtain⟨t111,A850,H⟩:=H;try dsimp only at H
                      have A85:=U.mk A850;clear A850
                      by_cases c86:t111 ≥ 0
                      ·rw[if_pos c86] at H;have c86b0:decide (0≤t111)=true:=decide_eq_true c86;clear c86;obtain rfl:=Option.some.inj H;have p108 : 0≤(x88_4:Int):=of_decide_eq_true (by assumption);have q108:x88_4 < (l0_6.length:Int):=of_decide_eq_true (by assumption);obtain⟨ad108,e108,hx108_0⟩:=Kd.at_string HR0_6.out x88_4 p108 q108
                       cases e108
                       replace hx108_0:=(HB.out.cell (World.block_lt_of_cell? w _ hx108_0)).trans hx108_0;replace p108:=eq_true p108;replace q108:=eq_true q108;go_wp2_with (first|((with_reducible refine zx (f:=54) rfl ?_);refine goesL_ (some 94) rfl rfl Tryz.func54 (by kernel_rfl) rfl #[.string (rdOf ByteArray.empty l0_6 x88_4)] rfl (by(try simp only[jq0,jq1,jq2]);first|done|rfl|(simp only[jq3,jq4];rfl)) ?_;(with_reducible refine(qkz.calls k4 (rdOf ByteArray.empty l0_6 x88_4) true _ A79.out).mono ?_);rintro e w' ⟨rfl,⟨nd,rfl⟩⟩;refine⟨_,rfl,?_⟩;obtain⟨y87_0,y87_1,y87_2,y87_3,y87_4,y87_5,y87_6,z87_0,z87_1,z87_2,z87_3,z87_4,z87_5,z87_6⟩:=bx7f BK101.out;have p110 : 0≤((ji82):Int):=of_decide_eq_true (by assumption);have q110:(ji82) < (l0_6.length:Int):=of_decide_eq_true (by assumption);obtain⟨ad110,e110,hx110_0⟩:=Kd.at_string HR0_6.out (ji82) p110 q110;obtain rfl:ad108=ad110:=(by injection e110);replace hx110_0:=(HB.out.cell (World.block_lt_of_cell? w _ hx110_0)).trans hx110_0;replace p110:=eq_true p110;replace q110:=eq_true q110)|(go_at_call 55;(with_reducible refine(qvz.calls k4 (rdOf ByteArray.empty l0_6 (ji82)) (rdOf ByteArray.empty l0_6 x88_4) t111 _ A85.out).mono ?_);rintro e w' ⟨rfl,⟨nd,rfl⟩⟩))
                       go_ret
                       exact⟨by first|rfl|(simp[zw,zv] <;> rfl)|(simp only[← hji82];first|rfl|(simp[zw,zv] <;> rfl))|(simp[*,zw,zv] <;> rfl),by solve_by_elim (maxDepth:=20) only[HB.out,L,O,J,qz,GE101.out]⟩
                      ·rw[if_neg c86] at H;have c86b0:decide (0≤t111)=false:=decide_eq_false c86;clear c86;have H':=U.mk H;clear H;have p108 : 0≤(x88_4:Int):=of_decide_eq_true (by assumption);have q108:x88_4 < (l0_6.length:Int):=of_decide_eq_true (by assumption);obtain⟨ad108,e108,hx108_0⟩:=Kd.at_string HR0_6.out x88_4 p108 q108
                       cases e108
                       replace hx108_0:=(HB.out.cell (World.block_lt_of_cell? w _ hx108_0)).trans hx108_0;replace p108:=eq_true p108;replace q108:=eq_true q108;go_wp2_with (first|((with_reducible refine zx (f:=54) rfl ?_);refine goesL_ (some 94) rfl rfl Tryz.func54 (by kernel_rfl) rfl #[.string (rdOf ByteArray.empty l0_6 x88_4)] rfl (by(try simp only[jq0,jq1,jq2]);first|done|rfl|(simp only[jq3,jq4];rfl)) ?_;(with_reducible refine(qkz.calls k4 (rdOf ByteArray.empty l0_6 x88_4) true _ A79.out).mono ?_);rintro e w' ⟨rfl,⟨nd,rfl⟩⟩;refine⟨_,rfl,?_⟩;obtain⟨y88_0,y88_1,y88_2,y88_3,y88_4,y88_5,y88_6,z88_0,z88_1,z88_2,z88_3,z88_4,z88_5,z88_6⟩:=bx7f BK101.out;have p110 : 0≤((ji82):Int):=of_decide_eq_true (by assumption);have q110:(ji82) < (l0_6.length:Int):=of_decide_eq_true (by assumption);obtain⟨ad110,e110,hx110_0⟩:=Kd.at_string HR0_6.out (ji82) p110 q110;obtain rfl:ad108=ad110:=(by injection e110);replace hx110_0:=(HB.out.cell (World.block_lt_of_cell? w _ hx110_0)).trans hx110_0;replace p110:=eq_true p110;replace q110:=eq_true q110)|(go_at_call 55;(with_reducible refine(qvz.calls k4 (rdOf ByteArray.empty l0_6 (ji82)) (rdOf ByteArray.empty l0_6 x88_4) t111 _ A85.out).mono ?_);rintro e w' ⟨rfl,⟨nd,rfl⟩⟩))
                       go_roundg k4
                       case measure=>have:=HJ16.out;have:=HJ21.out;have:=HK3.out;have:=HK4.out;omega
                       case rel=>exact⟨(wrap64 (x88_4 + 1)),(by first|rfl|(simp;done)|(simp[*];done)),H',⟨by have:=HJ16.out;have:=HJ21.out;have:=HK3.out;have:=HK4.out;omega⟩,⟨by(with_reducible repeat(first|refine qk ?_ _|refine qv ?_|refine qj ?_ _));exact BK101.out⟩,⟨by solve_by_elim (maxDepth:=20) only[HB.out,L,O,J,qz,GE101.out]⟩⟩
                     ·rw[if_neg c84] at H;exact absurd H (by simp)
                    ·rw[if_neg c83] at H;exact absurd H (by simp)
                   ·rw[if_neg c81] at H;have c81b0:decide (0 < x88_4)=false:=decide_eq_false c81;clear c81;have H':=U.mk H;clear H;have p108 : 0≤(x88_4:Int):=of_decide_eq_true (by assumption);have q108:x88_4 < (l0_6.length:Int):=of_decide_eq_true (by assumption);obtain⟨ad108,e108,hx108_0⟩:=Kd.at_string HR0_6.out x88_4 p108 q108
                    cases e108
                    replace hx108_0:=(HB.out.cell (World.block_lt_of_cell? w _ hx108_0)).trans hx108_0;replace p108:=eq_true p108;replace q108:=eq_true q108;go_wp2_with (first|((with_reducible refine zx (f:=54) rfl ?_);refine goesL_ (some 94) rfl rfl Tryz.func54 (by kernel_rfl) rfl #[.string (rdOf ByteArray.empty l0_6 x88_4)] rfl (by(try simp only[jq0,jq1,jq2]);first|done|rfl|(simp only[jq3,jq4];rfl)) ?_;(with_reducible refine(qkz.calls k4 (rdOf ByteArray.empty l0_6 x88_4) true _ A79.out).mono ?_);rintro e w' ⟨rfl,⟨nd,rfl⟩⟩;refine⟨_,rfl,?_⟩))
                    go_roundg k4
                    case measure=>have:=HJ16.out;have:=HJ21.out;have:=HK3.out;have:=HK4.out;omega
                    case rel=>exact⟨(wrap64 (x88_4 + 1)),(by first|rfl|(simp;done)|(simp[*];done)),H',⟨by have:=HJ16.out;have:=HJ21.out;have:=HK3.out;have:=HK4.out;omega⟩,⟨by(with_reducible repeat(first|refine qk ?_ _|refine qv ?_|refine qj ?_ _));exact BK101.out⟩,⟨by solve_by_elim (maxDepth:=20) only[HB.out,L,O,J,qz,GE101.out]⟩⟩
                  ·replace c80:=jq9.mpr c80;subst c80;have H1:(some false)=some r:=by rw[if_neg (show ¬ (false=true) by decide)] at H;exact H
                   clear H;have H:=H1;clear H1;obtain rfl:=Option.some.inj H;have p108 : 0≤(x88_4:Int):=of_decide_eq_true (by assumption);have q108:x88_4 < (l0_6.length:Int):=of_decide_eq_true (by assumption);obtain⟨ad108,e108,hx108_0⟩:=Kd.at_string HR0_6.out x88_4 p108 q108
                   cases e108
                   replace hx108_0:=(HB.out.cell (World.block_lt_of_cell? w _ hx108_0)).trans hx108_0;replace p108:=eq_true p108;replace q108:=eq_true q108;go_wp2_with (first|((with_reducible refine zx (f:=54) rfl ?_);refine goesL_ (some 94) rfl rfl Tryz.func54 (by kernel_rfl) rfl #[.string (rdOf ByteArray.empty l0_6 x88_4)] rfl (by(try simp only[jq0,jq1,jq2]);first|done|rfl|(simp only[jq3,jq4];rfl)) ?_;(with_reducible refine(qkz.calls k4 (rdOf ByteArray.empty l0_6 x88_4) false _ A79.out).mono ?_);rintro e w' ⟨rfl,⟨nd,rfl⟩⟩;refine⟨_,rfl,?_⟩))
                   go_ret
                   exact⟨by first|rfl|(simp[*,zw,zv] <;> rfl),by solve_by_elim (maxDepth:=20) only[HB.out,L,O,J,qz,GE101.out]⟩
                 ·rw[if_neg c78] at H;exact absurd H (by simp)
                ·rw[if_neg c77] at H;exact absurd H (by simp)
               ·rw[if_neg c76] at H;have c76b0:decide (x88_4 < (l0_6.length:Int))=false:=decide_eq_false c76;clear c76;obtain rfl:=Option.some.inj H;go_wp2;go_ret
                exact⟨by first|rfl|(simp[*,zw,zv] <;> rfl),by solve_by_elim (maxDepth:=20) only[HB.out,L,O,J,qz,GE101.out]⟩
            ·rw[if_neg c74] at H;have c74b0:((l0_6.length:Int) == (l0_5.length:Int))=false:=beq_eq_false_iff_ne.mpr c74;have c74b1:((l0_6.length:Int) != (l0_5.length:Int))=true:=bne_iff_ne.mpr c74;have c74b2:(l0_6.length == l0_5.length)=false:=by first|simpa using c74|(simp at c74 ⊢;omega)
             obtain rfl:=Option.some.inj H;obtain⟨y89_0,y89_1,y89_2,y89_3,y89_4,y89_5,y89_6,z89_0,z89_1,z89_2,z89_3,z89_4,z89_5,z89_6⟩:=bx7f BK101.out;go_wp2;go_ret
             exact⟨by first|rfl|(simp[*,zw,zv] <;> rfl),by solve_by_elim (maxDepth:=20) only[HB.out,L,O,J,qz,GE101.out]⟩
    ·replace c21:=jq9.mpr c21;subst c21;have H1:(some false)=some r:=by rw[if_neg (show ¬ (false=true) by decide)] at H;exact H
     clear H;have H:=H1;clear H1;obtain rfl:=Option.some.inj H;go_wp2;go_ret
     exact⟨by first|rfl|(simp[*,zw,zv] <;> rfl),by solve_by_elim (maxDepth:=20) only[HB.out,L,O,J,qz,GE101.out]⟩
end Go.Proofs.YtkcdefnpbnbaeaaGreatDoor.Pr
namespace Go.Proofs.YtkcdefnpbnbaeaaGreatDoor.Pr
open Go.RowKit Go.Proofs.YtkcdefnpbnbaeaaGreatDoorW.PrintWords Go.Proofs.YtkcdefnpbnbaeaaGreatDoorW.PrintLast Go.Proofs.YtkcdefnpbnbaeaaGreatDoorW.PrintMore
attribute [local go_sem] max2_int min2_int max_two min_two max_three min_three max_four min_four
set_option linter.unusedVariables false
set_option linter.unusedSimpArgs false
def qwz.l0:Nat→Int→ByteArray→Option (ByteArray)
 | 0,_,_=>none
 | k + 1,x0,x3=>if x0=0 then(some x3) else(if (Int.tmod x0 10) < 0 then((some (([(wrap64 (48 + (wrap64 (-(Int.tmod x0 10))))) % 256]:List Int):List Int)).bind fun y101=>(if (strOfNums y101).size + x3.size≤9223372036854775807 then(qwz.l0 k (wrap64 (Int.tdiv x0 10)) ((strOfNums y101) ++ x3)) else(none))) else((some (([(wrap64 (48 + (Int.tmod x0 10))) % 256]:List Int):List Int)).bind fun y104=>(if (strOfNums y104).size + x3.size≤9223372036854775807 then(qwz.l0 k (wrap64 (Int.tdiv x0 10)) ((strOfNums y104) ++ x3)) else(none))))
def qwz.f (k:Nat) (a0:Int):Option (ByteArray):=if a0=0 then(some (⟨#[48]⟩ : ByteArray)) else(qwz.l0 k a0 (⟨#[]⟩ : ByteArray))
theorem qwz.calls (k:Nat) (a0:Int) (r:ByteArray) (w:World) (h:qwz.f k a0=some r) :
  Calls Tryz.prog 58 #[.int .i64 a0] w fun e w'=>e=.returned (.string r)∧Below w.heap.size w w':=by
 have HB:=U.mk (Below.refl w.heap.size w);unfold qwz.f at h;have H:=h;clear h
 by_cases c2:a0=0
 ·rw[if_pos c2] at H;have c2b0:(a0 == 0)=true:=beq_iff_eq.mpr c2;have c2b1:(a0 != 0)=false:=bne_eq_false_iff_eq.mpr c2;clear c2;obtain rfl:=Option.some.inj H;go_enter Tryz.func58,Tryz.ntmps58;go_wp2;go_ret
  exact⟨by first|rfl|(simp[*,zw,zv] <;> rfl),by solve_by_elim only[HB.out,L,O,J]⟩
 ·rw[if_neg c2] at H;have c2b0:(a0 == 0)=false:=beq_eq_false_iff_ne.mpr c2;have c2b1:(a0 != 0)=true:=bne_iff_ne.mpr c2;have H':=U.mk H;clear H;go_enter Tryz.func58,Tryz.ntmps58;go_wp2
  go_loopg [0,3] k (fun kq v0 v3 w'=>∃ (x0_1:Int) (x3_1:ByteArray),v0=.int .i64 x0_1∧v3=.string x3_1∧U (qwz.l0 kq x0_1 x3_1=some r)∧U (kq≤k)∧U (Below w.heap.size w w'))
  case atStart=>exact⟨(a0),((⟨#[]⟩ : ByteArray)),(by first|rfl|(simp;done)|(simp[*];done)),(by first|rfl|(simp;done)|(simp[*];done)),H',⟨Nat.le_refl _⟩,⟨by solve_by_elim only[HB.out,L,O,J]⟩⟩
  case round =>
   clear H';try clear c2
   try clear c2b0
   try clear c2b1
   try clear p2
   obtain⟨x0_1,x3_1,rfl,rfl,HA,HK1,HB⟩:=hrel
   cases gk with
   | zero=>exact absurd HA.out (by simp[qwz.l0])
   | succ k1 =>
    have H:=HA.out;clear HA;simp only[qwz.l0] at H
    by_cases c3:x0_1=0
    ·rw[if_pos c3] at H;have c3b0:(x0_1 == 0)=true:=beq_iff_eq.mpr c3;have c3b1:(x0_1 != 0)=false:=bne_eq_false_iff_eq.mpr c3;clear c3;obtain rfl:=Option.some.inj H;go_wp2;go_ret
     exact⟨by first|rfl|(simp[*,zw,zv] <;> rfl),by solve_by_elim only[HB.out,L,O,J]⟩
    ·rw[if_neg c3] at H;have c3b0:(x0_1 == 0)=false:=beq_eq_false_iff_ne.mpr c3;have c3b1:(x0_1 != 0)=true:=bne_iff_ne.mpr c3
     by_cases c4:(Int.tmod x0_1 10) < 0
     ·rw[if_pos c4] at H;have c4b0:decide ((Int.tmod x0_1 10) < 0)=true:=decide_eq_true c4;clear c4;obtain⟨y101,hy101⟩ : ∃ y_:List Int,y_=(([(wrap64 (48 + (wrap64 (-(Int.tmod x0_1 10))))) % 256]:List Int)):=⟨_,rfl⟩;replace H:(if (strOfNums y101).size + x3_1.size≤9223372036854775807 then(qwz.l0 k1 (wrap64 (Int.tdiv x0_1 10)) ((strOfNums y101) ++ x3_1)) else(none))=some r:=by first|(rw[hy101];with_reducible exact H)|(have H2_:=(Option.bind_some _ _).symm.trans H;rw[hy101];with_reducible exact H2_)|(have H2_:=(Option.bind_some _ _).symm.trans H;with_reducible exact H2_)|with_reducible exact H|(rw[hy101];exact H)|exact H
      have Ny101:=U.mk hy101;clear hy101
      by_cases c5:(strOfNums y101).size + x3_1.size≤9223372036854775807
      ·rw[if_pos c5] at H;have c5b0:=eq_true c5;have c5b1:decide ((strOfNums y101).size + x3_1.size≤9223372036854775807)=true:=decide_eq_true c5;try have c5b2:(9223372036854775807 < (strOfNums y101).size + x3_1.size)=False:=eq_false (Nat.not_lt.2 c5)
       have H':=U.mk H;clear H;go_wp2_with (first|((with_reducible refine gate_dst (N:=18) rfl ?_);refine Kd.R_lit (Kd.int .u8) _ 5 ?hg (N:=18) ?hd (xs:=([(wrap64 (48 + (wrap64 (-(Int.tmod x0_1 10))))) % 256]:List Int)) (inner:=[.int .u8 ((wrap64 (48 + (wrap64 (-(Int.tmod x0_1 10))))) % 256)]) (ok:=fun _=>True) (okp:=fun _=>True) ?hr ?hp (fun _ hk=>hk) trivial (Below.refl _ _) (Nat.le_refl _) (by simp) ?_;(case hd=>rfl);(case hg=>rfl);(case hr=>first|(go_simp;done)|(go_simp;rfl));(case hp=>exact(Reps.one (show Kd.M (Kd.int .u8) _ _ _ ((wrap64 (48 + (wrap64 (-(Int.tmod x0_1 10))))) % 256) [.int .u8 ((wrap64 (48 + (wrap64 (-(Int.tmod x0_1 10))))) % 256)] from rfl) (Reps.none _ _)));intro v102 w6 ho7 hb hg_ hnew_;clear hg_ hnew_;(first|rw[← Ny101.out] at ho7|(simp only[Int.reduceToNat] at ho7;rw[← Ny101.out] at ho7));have HO103:=U.mk (Kd.R_lower ho7 (zq (by solve_by_elim only[HB.out,L,O,J])));replace HB:=U.mk (qx (by solve_by_elim only[HB.out,L,O,J]) hb);clear hb ho7;have hcv8:=own_string (P:=Tryz.prog) Tryz.underlying44 Tryz.underlying5 Tryz.underlying9 (Kd.own_of_R HO103.out)))
       go_roundg k1
       case measure=>have:=HK1.out;omega
       case rel=>exact⟨(wrap64 (Int.tdiv x0_1 10)),((strOfNums y101) ++ x3_1),(by first|rfl|(simp;done)|(simp[*];done)),(by first|rfl|(simp;done)|(simp[*];done)),H',⟨by have:=HK1.out;omega⟩,⟨by solve_by_elim only[HB.out,L,O,J]⟩⟩
      ·rw[if_neg c5] at H;exact absurd H (by simp)
     ·rw[if_neg c4] at H;have c4b0:decide ((Int.tmod x0_1 10) < 0)=false:=decide_eq_false c4;clear c4;obtain⟨y104,hy104⟩ : ∃ y_:List Int,y_=(([(wrap64 (48 + (Int.tmod x0_1 10))) % 256]:List Int)):=⟨_,rfl⟩;replace H:(if (strOfNums y104).size + x3_1.size≤9223372036854775807 then(qwz.l0 k1 (wrap64 (Int.tdiv x0_1 10)) ((strOfNums y104) ++ x3_1)) else(none))=some r:=by first|(rw[hy104];with_reducible exact H)|(have H2_:=(Option.bind_some _ _).symm.trans H;rw[hy104];with_reducible exact H2_)|(have H2_:=(Option.bind_some _ _).symm.trans H;with_reducible exact H2_)|with_reducible exact H|(rw[hy104];exact H)|exact H
      have Ny104:=U.mk hy104;clear hy104
      by_cases c9:(strOfNums y104).size + x3_1.size≤9223372036854775807
      ·rw[if_pos c9] at H;have c9b0:=eq_true c9;have c9b1:decide ((strOfNums y104).size + x3_1.size≤9223372036854775807)=true:=decide_eq_true c9;try have c9b2:(9223372036854775807 < (strOfNums y104).size + x3_1.size)=False:=eq_false (Nat.not_lt.2 c9)
       have H':=U.mk H;clear H;go_wp2_with (first|((with_reducible refine gate_dst (N:=18) rfl ?_);refine Kd.R_lit (Kd.int .u8) _ 5 ?hg (N:=18) ?hd (xs:=([(wrap64 (48 + (Int.tmod x0_1 10))) % 256]:List Int)) (inner:=[.int .u8 ((wrap64 (48 + (Int.tmod x0_1 10))) % 256)]) (ok:=fun _=>True) (okp:=fun _=>True) ?hr ?hp (fun _ hk=>hk) trivial (Below.refl _ _) (Nat.le_refl _) (by simp) ?_;(case hd=>rfl);(case hg=>rfl);(case hr=>first|(go_simp;done)|(go_simp;rfl));(case hp=>exact(Reps.one (show Kd.M (Kd.int .u8) _ _ _ ((wrap64 (48 + (Int.tmod x0_1 10))) % 256) [.int .u8 ((wrap64 (48 + (Int.tmod x0_1 10))) % 256)] from rfl) (Reps.none _ _)));intro v105 w10 ho11 hb hg_ hnew_;clear hg_ hnew_;(first|rw[← Ny104.out] at ho11|(simp only[Int.reduceToNat] at ho11;rw[← Ny104.out] at ho11));have HO106:=U.mk (Kd.R_lower ho11 (zq (by solve_by_elim only[HB.out,L,O,J])));replace HB:=U.mk (qx (by solve_by_elim only[HB.out,L,O,J]) hb);clear hb ho11;have hcv12:=own_string (P:=Tryz.prog) Tryz.underlying44 Tryz.underlying5 Tryz.underlying9 (Kd.own_of_R HO106.out)))
       go_roundg k1
       case measure=>have:=HK1.out;omega
       case rel=>exact⟨(wrap64 (Int.tdiv x0_1 10)),((strOfNums y104) ++ x3_1),(by first|rfl|(simp;done)|(simp[*];done)),(by first|rfl|(simp;done)|(simp[*];done)),H',⟨by have:=HK1.out;omega⟩,⟨by solve_by_elim only[HB.out,L,O,J]⟩⟩
      ·rw[if_neg c9] at H;exact absurd H (by simp)
end Go.Proofs.YtkcdefnpbnbaeaaGreatDoor.Pr
namespace Go.Proofs.YtkcdefnpbnbaeaaGreatDoor.Pr
open Go.RowKit Go.Proofs.YtkcdefnpbnbaeaaGreatDoorW.PrintWords Go.Proofs.YtkcdefnpbnbaeaaGreatDoorW.PrintLast Go.Proofs.YtkcdefnpbnbaeaaGreatDoorW.PrintMore
attribute [local go_sem] max2_int min2_int max_two min_two max_three min_three max_four min_four
set_option linter.unusedVariables false
set_option linter.unusedSimpArgs false
def qvv.f (k:Nat) (a0:Int):Option (ByteArray):=if a0 < 0 then((qwz.f k a0).bind fun t101=>(if 1 + t101.size≤9223372036854775807 then(some ((⟨#[45]⟩ : ByteArray) ++ t101)) else(none))) else((qwz.f k a0).bind fun t102=>(some t102))
theorem qvv.calls (k:Nat) (a0:Int) (r:ByteArray) (w:World) (h:qvv.f k a0=some r) :
  Calls Tryz.prog 56 #[.int .i64 a0] w fun e w'=>e=.returned (.string r)∧Below w.heap.size w w':=by
 have HB:=U.mk (Below.refl w.heap.size w);unfold qvv.f at h;have H:=h;clear h
 by_cases c2:a0 < 0
 ·rw[if_pos c2] at H;have c2b0:decide (a0 < 0)=true:=decide_eq_true c2;clear c2;replace H:=jq8.mp H;obtain⟨t101,A30,H⟩:=H;try dsimp only at H
  have A3:=U.mk A30;clear A30
  by_cases c4 : 1 + t101.size≤9223372036854775807
  ·rw[if_pos c4] at H;have c4b0:=eq_true c4;have c4b1:decide (1 + t101.size≤9223372036854775807)=true:=decide_eq_true c4;try have c4b2:(9223372036854775807 < 1 + t101.size)=False:=eq_false (Nat.not_lt.2 c4)
   obtain rfl:=Option.some.inj H;go_enter Tryz.func56,Tryz.ntmps56;go_wp2_with (first|((with_reducible refine zx (f:=58) rfl ?_);refine goesL_ (some 6) rfl rfl Tryz.func58 (by kernel_rfl) rfl #[.int .i64 a0] rfl (by(try simp only[jq0,jq1,jq2]);first|done|rfl|(simp only[jq3,jq4];rfl)) ?_;(with_reducible refine(qwz.calls k a0 t101 _ A3.out).mono ?_);rintro e w5 ⟨rfl,hb⟩;refine⟨_,rfl,?_⟩;replace HB:=U.mk (qx (by solve_by_elim only[HB.out,L,O,J]) hb);(try clear hb)))
   go_ret
   exact⟨by first|rfl|(simp[*,zw,zv] <;> rfl),by solve_by_elim only[HB.out,L,O,J]⟩
  ·rw[if_neg c4] at H;exact absurd H (by simp)
 ·rw[if_neg c2] at H;have c2b0:decide (a0 < 0)=false:=decide_eq_false c2;clear c2;replace H:=jq8.mp H;obtain⟨t102,A60,H⟩:=H;replace H:(some t102)=some r:=H;have A6:=U.mk A60;clear A60;obtain rfl:=Option.some.inj H;go_enter Tryz.func56,Tryz.ntmps56;go_wp2_with (first|((with_reducible refine zx (f:=58) rfl ?_);refine goesL_ (some 9) rfl rfl Tryz.func58 (by kernel_rfl) rfl #[.int .i64 a0] rfl (by(try simp only[jq0,jq1,jq2]);first|done|rfl|(simp only[jq3,jq4];rfl)) ?_;(with_reducible refine(qwz.calls k a0 t102 _ A6.out).mono ?_);rintro e w7 ⟨rfl,hb⟩;refine⟨_,rfl,?_⟩;replace HB:=U.mk (qx (by solve_by_elim only[HB.out,L,O,J]) hb);(try clear hb)))
  go_ret
  exact⟨by first|rfl|(simp[*,zw,zv] <;> rfl),by solve_by_elim only[HB.out,L,O,J]⟩
end Go.Proofs.YtkcdefnpbnbaeaaGreatDoor.Pr
namespace Go.Proofs.YtkcdefnpbnbaeaaGreatDoor.Pr
open Go.RowKit Go.Proofs.YtkcdefnpbnbaeaaGreatDoorW.PrintWords Go.Proofs.YtkcdefnpbnbaeaaGreatDoorW.PrintLast Go.Proofs.YtkcdefnpbnbaeaaGreatDoorW.PrintMore
attribute [local go_sem] max2_int min2_int max_two min_two max_three min_three max_four min_four
set_option linter.unusedVariables false
set_option linter.unusedSimpArgs false
def qwq.l0:Nat→ByteArray→List Int→Int→Option (ByteArray)
 | 0,_,_,_=>none
 | k + 1,x0,x3,x4=>if x4 < (x0.size:Int) then(if 0≤x4 then(if (bt x0 x4)=34 then(if x3.length < 140737488355328 then((some (x3 ++ [92]:List Int)).bind fun y104=>(if y104.length < 140737488355328 then(qwq.l0 k x0 (y104 ++ [bt x0 x4]) (wrap64 (x4 + 1))) else(none))) else(none)) else(if (bt x0 x4)=92 then(if x3.length < 140737488355328 then((some (x3 ++ [92]:List Int)).bind fun y110=>(if y110.length < 140737488355328 then(qwq.l0 k x0 (y110 ++ [bt x0 x4]) (wrap64 (x4 + 1))) else(none))) else(none)) else(if x3.length < 140737488355328 then(qwq.l0 k x0 (x3 ++ [bt x0 x4]) (wrap64 (x4 + 1))) else(none)))) else(none)) else(if x3.length < 140737488355328 then(some (strOfNums (x3 ++ [34]))) else(none))
def qwq.f (k:Nat) (a0:ByteArray):Option (ByteArray):=qwq.l0 k a0 (([34]:List Int)) 0
theorem qwq.calls (k:Nat) (a0:ByteArray) (r:ByteArray) (w:World) (h:qwq.f k a0=some r) :
  Calls Tryz.prog 57 #[.string a0] w fun e w'=>e=.returned (.string r)∧Below w.heap.size w w':=by
 have HB:=U.mk (Below.refl w.heap.size w);have H:(qwq.l0 k a0 (([34]:List Int)) 0)=some r:=h;clear h;obtain⟨y101,hy101⟩ : ∃ y_:List Int,y_=(([34]:List Int)):=⟨_,rfl⟩;replace H:(qwq.l0 k a0 y101 0)=some r:=by first|(rw[hy101];with_reducible exact H)|(have H2_:=(Option.bind_some _ _).symm.trans H;rw[hy101];with_reducible exact H2_)|(have H2_:=(Option.bind_some _ _).symm.trans H;with_reducible exact H2_)|with_reducible exact H|(rw[hy101];exact H)|exact H
 have Ny101:=U.mk hy101;clear hy101;have H':=U.mk H;clear H;go_enter Tryz.func57,Tryz.ntmps57;go_wp2_with (first|((with_reducible refine gate_dst (N:=5) rfl ?_);refine Kd.R_lit (Kd.int .u8) _ 5 ?hg (N:=5) ?hd (xs:=([34]:List Int)) (inner:=[.int .u8 34]) (ok:=fun _=>True) (okp:=fun _=>True) ?hr ?hp (fun _ hk=>hk) trivial (Below.refl _ _) (Nat.le_refl _) (by simp) ?_;(case hd=>rfl);(case hg=>rfl);(case hr=>first|(go_simp;done)|(go_simp;rfl));(case hp=>exact(Reps.one (show Kd.M (Kd.int .u8) _ _ _ 34 [.int .u8 34] from rfl) (Reps.none _ _)));intro v102 w2 ho3 hb hg_ hnew_;clear hg_ hnew_;(first|rw[← Ny101.out] at ho3|(simp only[Int.reduceToNat] at ho3;rw[← Ny101.out] at ho3));have HO103:=U.mk (Kd.R_lower ho3 (zq (by solve_by_elim only[HB.out,L,O,J])));replace HB:=U.mk (qx (by solve_by_elim only[HB.out,L,O,J]) hb);clear hb ho3))
 go_loopg [3,4] k (fun kq v3 v4 w'=>∃ (x3_1:List Int) (x4_1:Int),v4=.int .i64 x4_1∧U (qwq.l0 kq a0 x3_1 x4_1=some r)∧U (kq≤k)∧U (Kd.R (Kd.int .u8) 5 w' w.heap.size (fun _=>True) v3 x3_1)∧U (Below w.heap.size w w'))
 case atStart=>exact⟨(y101),(0),(by first|rfl|(simp;done)|(simp[*];done)),H',⟨Nat.le_refl _⟩,⟨by(with_reducible repeat(first|apply Kd.zj|apply Kd.zz|apply Kd.zk));exact HO103.out⟩,⟨by solve_by_elim only[HB.out,L,O,J]⟩⟩
 case round =>
  clear H';try clear p2
  obtain⟨x3_1,x4_1,rfl,HA,HK1,HO_3,HB⟩:=hrel
  cases gk with
  | zero=>exact absurd HA.out (by simp[qwq.l0])
  | succ k1 =>
   have H:=HA.out;clear HA;simp only[qwq.l0] at H
   by_cases c4:x4_1 < (a0.size:Int)
   ·rw[if_pos c4] at H;have c4b0:decide (x4_1 < (a0.size:Int))=true:=decide_eq_true c4;clear c4
    by_cases c5 : 0≤x4_1
    ·rw[if_pos c5] at H;have c5b0:decide (0≤x4_1)=true:=decide_eq_true c5;clear c5
     by_cases c7:(bt a0 x4_1)=34
     ·rw[if_pos c7] at H;have c7b0:((bt a0 x4_1) == 34)=true:=beq_iff_eq.mpr c7;have c7b1:((bt a0 x4_1) != 34)=false:=bne_eq_false_iff_eq.mpr c7;clear c7
      by_cases c8:x3_1.length < 140737488355328
      ·rw[if_pos c8] at H;have LMc8:=U.mk c8;clear c8;obtain⟨y104,hy104⟩ : ∃ y_:List Int,y_=(x3_1 ++ [92]):=⟨_,rfl⟩;replace H:(if y104.length < 140737488355328 then(qwq.l0 k1 a0 (y104 ++ [bt a0 x4_1]) (wrap64 (x4_1 + 1))) else(none))=some r:=by first|(rw[hy104];with_reducible exact H)|(have H2_:=(Option.bind_some _ _).symm.trans H;rw[hy104];with_reducible exact H2_)|(have H2_:=(Option.bind_some _ _).symm.trans H;with_reducible exact H2_)|with_reducible exact H|(rw[hy104];exact H)|exact H
       have Ny104:=U.mk hy104;clear hy104
       by_cases c10:y104.length < 140737488355328
       ·rw[if_pos c10] at H;have LMc10:=U.mk c10;clear c10;obtain⟨y107,hy107⟩ : ∃ y_:List Int,y_=(y104 ++ [bt a0 x4_1]):=⟨_,rfl⟩;replace H:(qwq.l0 k1 a0 y107 (wrap64 (x4_1 + 1)))=some r:=by first|(rw[hy107];with_reducible exact H)|(have H2_:=(Option.bind_some _ _).symm.trans H;rw[hy107];with_reducible exact H2_)|(have H2_:=(Option.bind_some _ _).symm.trans H;with_reducible exact H2_)|with_reducible exact H|(rw[hy107];exact H)|exact H
        have Ny107:=U.mk hy107;clear hy107;have H':=U.mk H;clear H;have p6 : 0≤(x4_1:Int):=of_decide_eq_true (by assumption);have q6:x4_1 < (a0.size:Int):=of_decide_eq_true (by assumption);have hx6:=bt_at a0 x4_1;replace p6:=eq_true p6;replace q6:=eq_true q6;go_wp2_with (first|((with_reducible refine gate_builtin (b:=.append) (xs:=#[.tmp 22,.tmp 23]) rfl ?_);at_builtin;refine Kd.R_append (Kd.int .u8) (w0:=w) w.heap.size rfl (.tmp 22) (.tmp 23) 44 5 (.int .u8 0) 1 rfl Tryz.underlying44 info5 rfl (by decide) (by omega) u3 x3_1 92 [.int .u8 92] (fun _=>True) (fun _=>False) rfl rfl ?aP (fun _ hk=>hk.elim) ?aF ?aO ?aB ?aS ?aL ?_;(case aP=>exact rfl);(case aB=>exact(by solve_by_elim only[HB.out,L,O,J]));(case aF=>exact(fun _ _=>trivial));(case aO=>exact(by solve_by_elim only[HO_3.out,Kd.zj,Kd.zz,Kd.zk]));(case aS=>exact(zq (by solve_by_elim only[HB.out,L,O,J])));(case aL=>have:=LMc8.out;omega);intro v105 w11 ho hb hg hat;rw[← Ny104.out] at ho;replace HB:=U.mk (hb);have HO106:=U.mk (ho);clear HO_3;clear ho hb hg hat;have p9 : 0≤(x4_1:Int):=of_decide_eq_true (by assumption);have q9:x4_1 < (a0.size:Int):=of_decide_eq_true (by assumption);have hx9:=bt_at a0 x4_1;replace p9:=eq_true p9;replace q9:=eq_true q9)|((with_reducible refine gate_builtin (b:=.append) (xs:=#[.tmp 25,.tmp 29]) rfl ?_);at_builtin;refine Kd.R_append (Kd.int .u8) (w0:=w) w.heap.size rfl (.tmp 25) (.tmp 29) 44 5 (.int .u8 0) 1 rfl Tryz.underlying44 info5 rfl (by decide) (by omega) v105 y104 (bt a0 x4_1) [.int .u8 (bt a0 x4_1)] (fun _=>True) (fun _=>False) rfl rfl ?aP (fun _ hk=>hk.elim) ?aF ?aO ?aB ?aS ?aL ?_;(case aP=>exact rfl);(case aB=>exact(by solve_by_elim only[HB.out,L,O,J]));(case aF=>exact(fun _ _=>trivial));(case aO=>exact(by solve_by_elim only[HO106.out,Kd.zj,Kd.zz,Kd.zk]));(case aS=>exact(zq (by solve_by_elim only[HB.out,L,O,J])));(case aL=>have:=LMc10.out;omega);intro v108 w12 ho hb hg hat;rw[← Ny107.out] at ho;replace HB:=U.mk (hb);have HO109:=U.mk (ho);clear HO106;clear ho hb hg hat))
        go_roundg k1
        case measure=>have:=HK1.out;omega
        case rel=>exact⟨(y107),(wrap64 (x4_1 + 1)),(by first|rfl|(simp;done)|(simp[*];done)),H',⟨by have:=HK1.out;omega⟩,⟨by(with_reducible repeat(first|apply Kd.zj|apply Kd.zz|apply Kd.zk));exact HO109.out⟩,⟨by solve_by_elim only[HB.out,L,O,J]⟩⟩
       ·rw[if_neg c10] at H;exact absurd H (by simp)
      ·rw[if_neg c8] at H;exact absurd H (by simp)
     ·rw[if_neg c7] at H;have c7b0:((bt a0 x4_1) == 34)=false:=beq_eq_false_iff_ne.mpr c7;have c7b1:((bt a0 x4_1) != 34)=true:=bne_iff_ne.mpr c7
      by_cases c14:(bt a0 x4_1)=92
      ·rw[if_pos c14] at H;have c14b0:((bt a0 x4_1) == 92)=true:=beq_iff_eq.mpr c14;have c14b1:((bt a0 x4_1) != 92)=false:=bne_eq_false_iff_eq.mpr c14;clear c14
       by_cases c15:x3_1.length < 140737488355328
       ·rw[if_pos c15] at H;have LMc15:=U.mk c15;clear c15;obtain⟨y110,hy110⟩ : ∃ y_:List Int,y_=(x3_1 ++ [92]):=⟨_,rfl⟩;replace H:(if y110.length < 140737488355328 then(qwq.l0 k1 a0 (y110 ++ [bt a0 x4_1]) (wrap64 (x4_1 + 1))) else(none))=some r:=by first|(rw[hy110];with_reducible exact H)|(have H2_:=(Option.bind_some _ _).symm.trans H;rw[hy110];with_reducible exact H2_)|(have H2_:=(Option.bind_some _ _).symm.trans H;with_reducible exact H2_)|with_reducible exact H|(rw[hy110];exact H)|exact H
        have Ny110:=U.mk hy110;clear hy110
        by_cases c17:y110.length < 140737488355328
        ·rw[if_pos c17] at H;have LMc17:=U.mk c17;clear c17;obtain⟨y113,hy113⟩ : ∃ y_:List Int,y_=(y110 ++ [bt a0 x4_1]):=⟨_,rfl⟩;replace H:(qwq.l0 k1 a0 y113 (wrap64 (x4_1 + 1)))=some r:=by first|(rw[hy113];with_reducible exact H)|(have H2_:=(Option.bind_some _ _).symm.trans H;rw[hy113];with_reducible exact H2_)|(have H2_:=(Option.bind_some _ _).symm.trans H;with_reducible exact H2_)|with_reducible exact H|(rw[hy113];exact H)|exact H
         have Ny113:=U.mk hy113;clear hy113;have H':=U.mk H;clear H;have p6 : 0≤(x4_1:Int):=of_decide_eq_true (by assumption);have q6:x4_1 < (a0.size:Int):=of_decide_eq_true (by assumption);have hx6:=bt_at a0 x4_1;replace p6:=eq_true p6;replace q6:=eq_true q6;have p13 : 0≤(x4_1:Int):=of_decide_eq_true (by assumption);have q13:x4_1 < (a0.size:Int):=of_decide_eq_true (by assumption);have hx13:=bt_at a0 x4_1;replace p13:=eq_true p13;replace q13:=eq_true q13;go_wp2_with (first|((with_reducible refine gate_builtin (b:=.append) (xs:=#[.tmp 22,.tmp 23]) rfl ?_);at_builtin;refine Kd.R_append (Kd.int .u8) (w0:=w) w.heap.size rfl (.tmp 22) (.tmp 23) 44 5 (.int .u8 0) 1 rfl Tryz.underlying44 info5 rfl (by decide) (by omega) u3 x3_1 92 [.int .u8 92] (fun _=>True) (fun _=>False) rfl rfl ?aP (fun _ hk=>hk.elim) ?aF ?aO ?aB ?aS ?aL ?_;(case aP=>exact rfl);(case aB=>exact(by solve_by_elim only[HB.out,L,O,J]));(case aF=>exact(fun _ _=>trivial));(case aO=>exact(by solve_by_elim only[HO_3.out,Kd.zj,Kd.zz,Kd.zk]));(case aS=>exact(zq (by solve_by_elim only[HB.out,L,O,J])));(case aL=>have:=LMc15.out;omega);intro v111 w18 ho hb hg hat;rw[← Ny110.out] at ho;replace HB:=U.mk (hb);have HO112:=U.mk (ho);clear HO_3;clear ho hb hg hat;have p16 : 0≤(x4_1:Int):=of_decide_eq_true (by assumption);have q16:x4_1 < (a0.size:Int):=of_decide_eq_true (by assumption);have hx16:=bt_at a0 x4_1;replace p16:=eq_true p16;replace q16:=eq_true q16)|((with_reducible refine gate_builtin (b:=.append) (xs:=#[.tmp 25,.tmp 29]) rfl ?_);at_builtin;refine Kd.R_append (Kd.int .u8) (w0:=w) w.heap.size rfl (.tmp 25) (.tmp 29) 44 5 (.int .u8 0) 1 rfl Tryz.underlying44 info5 rfl (by decide) (by omega) v111 y110 (bt a0 x4_1) [.int .u8 (bt a0 x4_1)] (fun _=>True) (fun _=>False) rfl rfl ?aP (fun _ hk=>hk.elim) ?aF ?aO ?aB ?aS ?aL ?_;(case aP=>exact rfl);(case aB=>exact(by solve_by_elim only[HB.out,L,O,J]));(case aF=>exact(fun _ _=>trivial));(case aO=>exact(by solve_by_elim only[HO112.out,Kd.zj,Kd.zz,Kd.zk]));(case aS=>exact(zq (by solve_by_elim only[HB.out,L,O,J])));(case aL=>have:=LMc17.out;omega);intro v114 w19 ho hb hg hat;rw[← Ny113.out] at ho;replace HB:=U.mk (hb);have HO115:=U.mk (ho);clear HO112;clear ho hb hg hat))
         go_roundg k1
         case measure=>have:=HK1.out;omega
         case rel=>exact⟨(y113),(wrap64 (x4_1 + 1)),(by first|rfl|(simp;done)|(simp[*];done)),H',⟨by have:=HK1.out;omega⟩,⟨by(with_reducible repeat(first|apply Kd.zj|apply Kd.zz|apply Kd.zk));exact HO115.out⟩,⟨by solve_by_elim only[HB.out,L,O,J]⟩⟩
        ·rw[if_neg c17] at H;exact absurd H (by simp)
       ·rw[if_neg c15] at H;exact absurd H (by simp)
      ·rw[if_neg c14] at H;have c14b0:((bt a0 x4_1) == 92)=false:=beq_eq_false_iff_ne.mpr c14;have c14b1:((bt a0 x4_1) != 92)=true:=bne_iff_ne.mpr c14
       by_cases c21:x3_1.length < 140737488355328
       ·rw[if_pos c21] at H;have LMc21:=U.mk c21;clear c21;obtain⟨y116,hy116⟩ : ∃ y_:List Int,y_=(x3_1 ++ [bt a0 x4_1]):=⟨_,rfl⟩;replace H:(qwq.l0 k1 a0 y116 (wrap64 (x4_1 + 1)))=some r:=by first|(rw[hy116];with_reducible exact H)|(have H2_:=(Option.bind_some _ _).symm.trans H;rw[hy116];with_reducible exact H2_)|(have H2_:=(Option.bind_some _ _).symm.trans H;with_reducible exact H2_)|with_reducible exact H|(rw[hy116];exact H)|exact H
        have Ny116:=U.mk hy116;clear hy116;have H':=U.mk H;clear H;have p6 : 0≤(x4_1:Int):=of_decide_eq_true (by assumption);have q6:x4_1 < (a0.size:Int):=of_decide_eq_true (by assumption);have hx6:=bt_at a0 x4_1;replace p6:=eq_true p6;replace q6:=eq_true q6;have p13 : 0≤(x4_1:Int):=of_decide_eq_true (by assumption);have q13:x4_1 < (a0.size:Int):=of_decide_eq_true (by assumption);have hx13:=bt_at a0 x4_1;replace p13:=eq_true p13;replace q13:=eq_true q13;have p20 : 0≤(x4_1:Int):=of_decide_eq_true (by assumption);have q20:x4_1 < (a0.size:Int):=of_decide_eq_true (by assumption);have hx20:=bt_at a0 x4_1;replace p20:=eq_true p20;replace q20:=eq_true q20;go_wp2_with (first|((with_reducible refine gate_builtin (b:=.append) (xs:=#[.tmp 25,.tmp 29]) rfl ?_);at_builtin;refine Kd.R_append (Kd.int .u8) (w0:=w) w.heap.size rfl (.tmp 25) (.tmp 29) 44 5 (.int .u8 0) 1 rfl Tryz.underlying44 info5 rfl (by decide) (by omega) u3 x3_1 (bt a0 x4_1) [.int .u8 (bt a0 x4_1)] (fun _=>True) (fun _=>False) rfl rfl ?aP (fun _ hk=>hk.elim) ?aF ?aO ?aB ?aS ?aL ?_;(case aP=>exact rfl);(case aB=>exact(by solve_by_elim only[HB.out,L,O,J]));(case aF=>exact(fun _ _=>trivial));(case aO=>exact(by solve_by_elim only[HO_3.out,Kd.zj,Kd.zz,Kd.zk]));(case aS=>exact(zq (by solve_by_elim only[HB.out,L,O,J])));(case aL=>have:=LMc21.out;omega);intro v117 w22 ho hb hg hat;rw[← Ny116.out] at ho;replace HB:=U.mk (hb);have HO118:=U.mk (ho);clear HO_3;clear ho hb hg hat))
        go_roundg k1
        case measure=>have:=HK1.out;omega
        case rel=>exact⟨(y116),(wrap64 (x4_1 + 1)),(by first|rfl|(simp;done)|(simp[*];done)),H',⟨by have:=HK1.out;omega⟩,⟨by(with_reducible repeat(first|apply Kd.zj|apply Kd.zz|apply Kd.zk));exact HO118.out⟩,⟨by solve_by_elim only[HB.out,L,O,J]⟩⟩
       ·rw[if_neg c21] at H;exact absurd H (by simp)
    ·rw[if_neg c5] at H;exact absurd H (by simp)
   ·rw[if_neg c4] at H;have c4b0:decide (x4_1 < (a0.size:Int))=false:=decide_eq_false c4;clear c4
    by_cases c23:x3_1.length < 140737488355328
    ·rw[if_pos c23] at H;have LMc23:=U.mk c23;clear c23;obtain⟨y119,hy119⟩ : ∃ y_:List Int,y_=(x3_1 ++ [34]):=⟨_,rfl⟩;replace H:(some (strOfNums y119))=some r:=by first|(rw[hy119];with_reducible exact H)|(have H2_:=(Option.bind_some _ _).symm.trans H;rw[hy119];with_reducible exact H2_)|(have H2_:=(Option.bind_some _ _).symm.trans H;with_reducible exact H2_)|with_reducible exact H|(rw[hy119];exact H)|exact H
     have Ny119:=U.mk hy119;clear hy119;obtain rfl:=Option.some.inj H;go_wp2_with (first|((with_reducible refine gate_builtin (b:=.append) (xs:=#[.tmp 31,.tmp 32]) rfl ?_);at_builtin;refine Kd.R_append (Kd.int .u8) (w0:=w) w.heap.size rfl (.tmp 31) (.tmp 32) 44 5 (.int .u8 0) 1 rfl Tryz.underlying44 info5 rfl (by decide) (by omega) u3 x3_1 34 [.int .u8 34] (fun _=>True) (fun _=>False) rfl rfl ?aP (fun _ hk=>hk.elim) ?aF ?aO ?aB ?aS ?aL ?_;(case aP=>exact rfl);(case aB=>exact(by solve_by_elim only[HB.out,L,O,J]));(case aF=>exact(fun _ _=>trivial));(case aO=>exact(by solve_by_elim only[HO_3.out,Kd.zj,Kd.zz,Kd.zk]));(case aS=>exact(zq (by solve_by_elim only[HB.out,L,O,J])));(case aL=>have:=LMc23.out;omega);intro v120 w24 ho hb hg hat;rw[← Ny119.out] at ho;replace HB:=U.mk (hb);have HO121:=U.mk (ho);clear HO_3;clear ho hb hg hat;have hcv25:=own_string (P:=Tryz.prog) Tryz.underlying44 Tryz.underlying5 Tryz.underlying9 (Kd.own_of_R HO121.out)))
     go_ret
     exact⟨by first|rfl|(simp[*,zw,zv] <;> rfl),by solve_by_elim only[HB.out,L,O,J]⟩
    ·rw[if_neg c23] at H;exact absurd H (by simp)
end Go.Proofs.YtkcdefnpbnbaeaaGreatDoor.Pr
namespace Go.Proofs.YtkcdefnpbnbaeaaGreatDoor.Pr
open Go.RowKit Go.Proofs.YtkcdefnpbnbaeaaGreatDoorW.PrintWords Go.Proofs.YtkcdefnpbnbaeaaGreatDoorW.PrintLast Go.Proofs.YtkcdefnpbnbaeaaGreatDoorW.PrintMore
attribute [local go_sem] max2_int min2_int max_two min_two max_three min_three max_four min_four
set_option linter.unusedVariables false
set_option linter.unusedSimpArgs false
def qwj.l0:Nat→ByteArray→Int→Int→ByteArray→ByteArray→Option (ByteArray)
 | 0,_,_,_,_,_=>none
 | k + 1,x3,x102000,x102001,x102002,x102003=>if (x3.size:Int) < 5 then(if 1 + x3.size≤9223372036854775807 then(qwj.l0 k ((⟨#[48]⟩ : ByteArray) ++ x3) x102000 x102001 x102002 x102003) else(none)) else(if 0≤(wrap64 ((x3.size:Int) - 4)) then(if (wrap64 ((x3.size:Int) - 4))≤(x3.size:Int) then(if (x3.extract 0 ((wrap64 ((x3.size:Int) - 4)):Int).toNat).size + 1≤9223372036854775807 then(if ((x3.extract 0 ((wrap64 ((x3.size:Int) - 4)):Int).toNat) ++ (⟨#[46]⟩ : ByteArray)).size + (x3.extract ((wrap64 ((x3.size:Int) - 4)):Int).toNat x3.size).size≤9223372036854775807 then(if x102001 < 0 then(if 1 + (((x3.extract 0 ((wrap64 ((x3.size:Int) - 4)):Int).toNat) ++ (⟨#[46]⟩ : ByteArray)) ++ (x3.extract ((wrap64 ((x3.size:Int) - 4)):Int).toNat x3.size)).size≤9223372036854775807 then(some ((⟨#[45]⟩ : ByteArray) ++ (((x3.extract 0 ((wrap64 ((x3.size:Int) - 4)):Int).toNat) ++ (⟨#[46]⟩ : ByteArray)) ++ (x3.extract ((wrap64 ((x3.size:Int) - 4)):Int).toNat x3.size)))) else(none)) else(some (((x3.extract 0 ((wrap64 ((x3.size:Int) - 4)):Int).toNat) ++ (⟨#[46]⟩ : ByteArray)) ++ (x3.extract ((wrap64 ((x3.size:Int) - 4)):Int).toNat x3.size)))) else(none)) else(none)) else(none)) else(none))
def qwj.f (k:Nat) (a0_0:Int) (a0_1:Int) (a0_2:ByteArray) (a0_3:ByteArray):Option (ByteArray):=if a0_0=1 then(if a0_1=1 then(some (⟨#[116,114,117,101]⟩ : ByteArray)) else(some (⟨#[102,97,108,115,101]⟩ : ByteArray))) else(if a0_0=2 then((qvv.f k a0_1).bind fun t102=>(some t102)) else(if a0_0=3 then((qwq.f k a0_2).bind fun t103=>(some t103)) else(if a0_0=4 then(if a0_3.size + 2≤9223372036854775807 then((qwq.f k a0_2).bind fun t104=>(if (a0_3 ++ (⟨#[58,58]⟩ : ByteArray)).size + t104.size≤9223372036854775807 then(some ((a0_3 ++ (⟨#[58,58]⟩ : ByteArray)) ++ t104)) else(none))) else(none)) else(if a0_0=5 then((qwz.f k a0_1).bind fun t105=>(qwj.l0 k t105 a0_0 a0_1 a0_2 a0_3)) else(if a0_0=6 then((qkx.f k a0_0 a0_1 a0_2 a0_3).bind fun bt106=>((qvv.f k (wrap64 (Int.tdiv bt106.1 16777216))).bind fun t108=>(if t108.size + 1≤9223372036854775807 then((qvv.f k (Int.tmod (wrap64 (Int.tdiv bt106.1 65536)) 256)).bind fun t109=>(if (t108 ++ (⟨#[46]⟩ : ByteArray)).size + t109.size≤9223372036854775807 then(if ((t108 ++ (⟨#[46]⟩ : ByteArray)) ++ t109).size + 1≤9223372036854775807 then((qvv.f k (Int.tmod (wrap64 (Int.tdiv bt106.1 256)) 256)).bind fun t110=>(if (((t108 ++ (⟨#[46]⟩ : ByteArray)) ++ t109) ++ (⟨#[46]⟩ : ByteArray)).size + t110.size≤9223372036854775807 then(if ((((t108 ++ (⟨#[46]⟩ : ByteArray)) ++ t109) ++ (⟨#[46]⟩ : ByteArray)) ++ t110).size + 1≤9223372036854775807 then((qvv.f k (Int.tmod bt106.1 256)).bind fun t111=>(if (((((t108 ++ (⟨#[46]⟩ : ByteArray)) ++ t109) ++ (⟨#[46]⟩ : ByteArray)) ++ t110) ++ (⟨#[46]⟩ : ByteArray)).size + t111.size≤9223372036854775807 then(if ((((((t108 ++ (⟨#[46]⟩ : ByteArray)) ++ t109) ++ (⟨#[46]⟩ : ByteArray)) ++ t110) ++ (⟨#[46]⟩ : ByteArray)) ++ t111).size + 1≤9223372036854775807 then((qvv.f k (Int.tmod a0_1 64)).bind fun t112=>(if (((((((t108 ++ (⟨#[46]⟩ : ByteArray)) ++ t109) ++ (⟨#[46]⟩ : ByteArray)) ++ t110) ++ (⟨#[46]⟩ : ByteArray)) ++ t111) ++ (⟨#[47]⟩ : ByteArray)).size + t112.size≤9223372036854775807 then(some ((((((((t108 ++ (⟨#[46]⟩ : ByteArray)) ++ t109) ++ (⟨#[46]⟩ : ByteArray)) ++ t110) ++ (⟨#[46]⟩ : ByteArray)) ++ t111) ++ (⟨#[47]⟩ : ByteArray)) ++ t112)) else(none))) else(none)) else(none))) else(none)) else(none))) else(none)) else(none))) else(none)))) else((qvv.f k a0_1).bind fun t113=>(if 1 + t113.size≤9223372036854775807 then(some ((⟨#[64]⟩ : ByteArray) ++ t113)) else(none))))))))
def qwj.T11:Bool × List (List Nat × List Nat):=(true,[([],[]),([0],[0]),([1],[1]),([],[]),([3],[3]),([4],[4]),([2,5],[2,5]),([6,5,0,1,2,3,4,5,6],[6])])
def qwj.B11:List Nat:=[0,1,3,0,8,24,63,127]
theorem qwj.tab11:rtab .any (opsOf Tryz.f37 11)=qwj.T11:=by kernel_rfl
theorem qwj.bits11:waitsOk qwj.T11.2 qwj.B11=true:=by kernel_rfl
def qwj.T22:Bool × List (List Nat × List Nat):=(true,[([],[]),([0],[0]),([1],[1]),([2],[2]),([],[]),([4],[4]),([5],[5]),([6,2],[6]),([3,7],[3,7]),([8],[8]),([],[]),([10],[10]),([11],[11]),([12,7],[12]),([9,13],[9,13]),([14],[14]),([],[]),([16],[16]),([17,13],[17]),([15,18],[15,18]),([19],[19]),([],[]),([21],[21]),([22],[22]),([23,18],[23]),([20,24],[20,24]),([25,24,0,1,2,3,4,5,6,7,8,9,10,11,12,13,14,15,16,17,18,19,20,21,22,23,24,25],[25])])
def qwj.B22:List Nat:=[0,1,3,7,0,16,48,119,255,511,0,1024,3072,7415,16383,32767,0,65536,212215,524287,1048575,0,2097152,6291456,15154423,33554431,67108863]
theorem qwj.tab22:rtab .any (opsOf Tryz.f37 22)=qwj.T22:=by kernel_rfl
theorem qwj.bits22:waitsOk qwj.T22.2 qwj.B22=true:=by kernel_rfl
theorem qwj.calls (k:Nat) (a0_0:Int) (a0_1:Int) (a0_2:ByteArray) (a0_3:ByteArray) (r:ByteArray) (w:World) (h:qwj.f k a0_0 a0_1 a0_2 a0_3=some r) :
  Calls Tryz.prog 37 #[.agg #[.int .i64 a0_0,.int .i64 a0_1,.string a0_2,.string a0_3]] w fun e w'=>e=.returned (.string r)∧Below w.heap.size w w':=by
 have hu30:=Tryz.underlying30;have HB:=U.mk (Below.refl w.heap.size w);unfold qwj.f at h;have H:=h;clear h
 by_cases c2:a0_0=1
 ·rw[if_pos c2] at H;have c2b0:(a0_0 == 1)=true:=beq_iff_eq.mpr c2;have c2b1:(a0_0 != 1)=false:=bne_eq_false_iff_eq.mpr c2;clear c2
  by_cases c3:a0_1=1
  ·rw[if_pos c3] at H;have c3b0:(a0_1 == 1)=true:=beq_iff_eq.mpr c3;have c3b1:(a0_1 != 1)=false:=bne_eq_false_iff_eq.mpr c3;clear c3;obtain rfl:=Option.some.inj H;go_enter Tryz.func37,Tryz.ntmps37;go_wp2_with (first|((with_reducible refine gate_dst (N:=1) rfl ?_);refine box_event ?hg (N:=1) ?hd (cs:=#[.int .i64 a0_0,.int .i64 a0_1,.string a0_2,.string a0_3]) (t:=30) ?hr ?_;(case hd=>rfl);(case hg=>rfl);(case hr=>first|(go_simp;done)|(go_simp;rfl));intro gb101 hg w4 hbox hb;have BK101:=U.mk (hbox);have GW101:=U.mk ((by rw[hg];exact(zq (by solve_by_elim only[HB.out,L,O,J])):w.heap.size≤gb101));have GE101:=GW101;replace HB:=U.mk (qx (by solve_by_elim only[HB.out,L,O,J]) hb);clear hb hbox hg;obtain⟨y5_0,y5_1,y5_2,y5_3,z5_0,z5_1,z5_2,z5_3⟩:=bx4f BK101.out))
   go_ret
   exact⟨by first|rfl|(simp[*,zw,zv] <;> rfl),by solve_by_elim (maxDepth:=20) only[HB.out,L,O,J,qz,GE101.out]⟩
  ·rw[if_neg c3] at H;have c3b0:(a0_1 == 1)=false:=beq_eq_false_iff_ne.mpr c3;have c3b1:(a0_1 != 1)=true:=bne_iff_ne.mpr c3;obtain rfl:=Option.some.inj H;go_enter Tryz.func37,Tryz.ntmps37;go_wp2_with (first|((with_reducible refine gate_dst (N:=1) rfl ?_);refine box_event ?hg (N:=1) ?hd (cs:=#[.int .i64 a0_0,.int .i64 a0_1,.string a0_2,.string a0_3]) (t:=30) ?hr ?_;(case hd=>rfl);(case hg=>rfl);(case hr=>first|(go_simp;done)|(go_simp;rfl));intro gb101 hg w6 hbox hb;have BK101:=U.mk (hbox);have GW101:=U.mk ((by rw[hg];exact(zq (by solve_by_elim only[HB.out,L,O,J])):w.heap.size≤gb101));have GE101:=GW101;replace HB:=U.mk (qx (by solve_by_elim only[HB.out,L,O,J]) hb);clear hb hbox hg;obtain⟨y7_0,y7_1,y7_2,y7_3,z7_0,z7_1,z7_2,z7_3⟩:=bx4f BK101.out))
   go_ret
   exact⟨by first|rfl|(simp[*,zw,zv] <;> rfl),by solve_by_elim (maxDepth:=20) only[HB.out,L,O,J,qz,GE101.out]⟩
 ·rw[if_neg c2] at H;have c2b0:(a0_0 == 1)=false:=beq_eq_false_iff_ne.mpr c2;have c2b1:(a0_0 != 1)=true:=bne_iff_ne.mpr c2
  by_cases c8:a0_0=2
  ·rw[if_pos c8] at H;have c8b0:(a0_0 == 2)=true:=beq_iff_eq.mpr c8;have c8b1:(a0_0 != 2)=false:=bne_eq_false_iff_eq.mpr c8;clear c8;replace H:=jq8.mp H;obtain⟨t102,A90,H⟩:=H;replace H:(some t102)=some r:=H;have A9:=U.mk A90;clear A90;obtain rfl:=Option.some.inj H;go_enter Tryz.func37,Tryz.ntmps37;go_wp2_with (first|((with_reducible refine gate_dst (N:=1) rfl ?_);refine box_event ?hg (N:=1) ?hd (cs:=#[.int .i64 a0_0,.int .i64 a0_1,.string a0_2,.string a0_3]) (t:=30) ?hr ?_;(case hd=>rfl);(case hg=>rfl);(case hr=>first|(go_simp;done)|(go_simp;rfl));intro gb101 hg w10 hbox hb;have BK101:=U.mk (hbox);have GW101:=U.mk ((by rw[hg];exact(zq (by solve_by_elim only[HB.out,L,O,J])):w.heap.size≤gb101));have GE101:=GW101;replace HB:=U.mk (qx (by solve_by_elim only[HB.out,L,O,J]) hb);clear hb hbox hg;obtain⟨y11_0,y11_1,y11_2,y11_3,z11_0,z11_1,z11_2,z11_3⟩:=bx4f BK101.out)|((with_reducible refine zx (f:=56) rfl ?_);refine goesL_ (some 17) rfl rfl Tryz.func56 (by kernel_rfl) rfl #[.int .i64 a0_1] rfl (by(try simp only[jq0,jq1,jq2]);first|done|rfl|(simp only[jq3,jq4];rfl)) ?_;(with_reducible refine(qvv.calls k a0_1 t102 _ A9.out).mono ?_);rintro e w12 ⟨rfl,hb⟩;refine⟨_,rfl,?_⟩;replace BK101:=U.mk (jx (by solve_by_elim only[BK101.out,qk,qv,qj]) hb);replace HB:=U.mk (qx (by solve_by_elim (maxDepth:=20) only[HB.out,L,O,J,qz,GE101.out]) hb);(try clear hb)))
   go_ret
   exact⟨by first|rfl|(simp[*,zw,zv] <;> rfl),by solve_by_elim (maxDepth:=20) only[HB.out,L,O,J,qz,GE101.out]⟩
  ·rw[if_neg c8] at H;have c8b0:(a0_0 == 2)=false:=beq_eq_false_iff_ne.mpr c8;have c8b1:(a0_0 != 2)=true:=bne_iff_ne.mpr c8
   by_cases c13:a0_0=3
   ·rw[if_pos c13] at H;have c13b0:(a0_0 == 3)=true:=beq_iff_eq.mpr c13;have c13b1:(a0_0 != 3)=false:=bne_eq_false_iff_eq.mpr c13;clear c13;replace H:=jq8.mp H;obtain⟨t103,A140,H⟩:=H;replace H:(some t103)=some r:=H;have A14:=U.mk A140;clear A140;obtain rfl:=Option.some.inj H;go_enter Tryz.func37,Tryz.ntmps37;go_wp2_with (first|((with_reducible refine gate_dst (N:=1) rfl ?_);refine box_event ?hg (N:=1) ?hd (cs:=#[.int .i64 a0_0,.int .i64 a0_1,.string a0_2,.string a0_3]) (t:=30) ?hr ?_;(case hd=>rfl);(case hg=>rfl);(case hr=>first|(go_simp;done)|(go_simp;rfl));intro gb101 hg w15 hbox hb;have BK101:=U.mk (hbox);have GW101:=U.mk ((by rw[hg];exact(zq (by solve_by_elim only[HB.out,L,O,J])):w.heap.size≤gb101));have GE101:=GW101;replace HB:=U.mk (qx (by solve_by_elim only[HB.out,L,O,J]) hb);clear hb hbox hg;obtain⟨y16_0,y16_1,y16_2,y16_3,z16_0,z16_1,z16_2,z16_3⟩:=bx4f BK101.out)|((with_reducible refine zx (f:=57) rfl ?_);refine goesL_ (some 22) rfl rfl Tryz.func57 (by kernel_rfl) rfl #[.string a0_2] rfl (by(try simp only[jq0,jq1,jq2]);first|done|rfl|(simp only[jq3,jq4];rfl)) ?_;(with_reducible refine(qwq.calls k a0_2 t103 _ A14.out).mono ?_);rintro e w17 ⟨rfl,hb⟩;refine⟨_,rfl,?_⟩;replace BK101:=U.mk (jx (by solve_by_elim only[BK101.out,qk,qv,qj]) hb);replace HB:=U.mk (qx (by solve_by_elim (maxDepth:=20) only[HB.out,L,O,J,qz,GE101.out]) hb);(try clear hb)))
    go_ret
    exact⟨by first|rfl|(simp[*,zw,zv] <;> rfl),by solve_by_elim (maxDepth:=20) only[HB.out,L,O,J,qz,GE101.out]⟩
   ·rw[if_neg c13] at H;have c13b0:(a0_0 == 3)=false:=beq_eq_false_iff_ne.mpr c13;have c13b1:(a0_0 != 3)=true:=bne_iff_ne.mpr c13
    by_cases c18:a0_0=4
    ·rw[if_pos c18] at H;have c18b0:(a0_0 == 4)=true:=beq_iff_eq.mpr c18;have c18b1:(a0_0 != 4)=false:=bne_eq_false_iff_eq.mpr c18;clear c18
     by_cases c19:a0_3.size + 2≤9223372036854775807
     ·rw[if_pos c19] at H;have c19b0:=eq_true c19;have c19b1:decide (a0_3.size + 2≤9223372036854775807)=true:=decide_eq_true c19;try have c19b2:(9223372036854775807 < a0_3.size + 2)=False:=eq_false (Nat.not_lt.2 c19)
      replace H:=jq8.mp H;obtain⟨t104,A200,H⟩:=H;try dsimp only at H
      have A20:=U.mk A200;clear A200
      by_cases c21:(a0_3 ++ (⟨#[58,58]⟩ : ByteArray)).size + t104.size≤9223372036854775807
      ·rw[if_pos c21] at H;have c21b0:=eq_true c21;have c21b1:decide ((a0_3 ++ (⟨#[58,58]⟩ : ByteArray)).size + t104.size≤9223372036854775807)=true:=decide_eq_true c21;try have c21b2:(9223372036854775807 < (a0_3 ++ (⟨#[58,58]⟩ : ByteArray)).size + t104.size)=False:=eq_false (Nat.not_lt.2 c21)
       try (have c21b9:=c21b2;simp only[ByteArray.size_append,show(⟨#[58,58]⟩ : ByteArray).size=2 from rfl] at c21b9)
       obtain rfl:=Option.some.inj H;go_enter Tryz.func37,Tryz.ntmps37;try go_wp2_with (first|((with_reducible refine gate_dst (N:=1) rfl ?_);refine box_event ?hg (N:=1) ?hd (cs:=#[.int .i64 a0_0,.int .i64 a0_1,.string a0_2,.string a0_3]) (t:=30) ?hr ?_;(case hd=>rfl);(case hg=>rfl);(case hr=>first|(go_simp;done)|(go_simp;rfl));intro gb101 hg w22 hbox hb;have BK101:=U.mk (hbox);have GW101:=U.mk ((by rw[hg];exact(zq (by solve_by_elim only[HB.out,L,O,J])):w.heap.size≤gb101));have GE101:=GW101;replace HB:=U.mk (qx (by solve_by_elim only[HB.out,L,O,J]) hb);clear hb hbox hg;obtain⟨y23_0,y23_1,y23_2,y23_3,z23_0,z23_1,z23_2,z23_3⟩:=bx4f BK101.out))
       replace BK101:=U.mk (qv BK101.out);replace HB:=U.mk (J HB.out);refine start_ (n:=8) (S:=fun w'=>w'.cell? ⟨gb101,0,none⟩ = some (.int .i64 a0_0)∧w'.cell? ⟨gb101,1,none⟩ = some (.int .i64 a0_1)∧w'.cell? ⟨gb101,2,none⟩ = some (.string a0_2)∧w'.cell? ⟨gb101,3,none⟩ = some (.string a0_3)) (ds:=[]) #[Y,Y,Y,Y,Y,Y,Y,Y] (by kernel_rfl) rfl rfl ⟨(qq BK101.out 0).trans rfl,(qq BK101.out 1).trans rfl,(qq BK101.out 2).trans rfl,(qq BK101.out 3).trans rfl⟩ (fun hHeld=>?_);refine with_tabW qwj.tab11 qwj.bits11 (fun HT_ HW_=>?_)
       generalize w22.drew=w24 at BK101 HB hHeld ⊢;refine pure_ (i:=0) (N:=some 25) (v:=?_) (a':=?_) #[Z,Y,Y,Y,Y,Y,Y,Y] rfl rfl (any_of HT_.out (by kernel_rfl)) (fun _ _ _ h=>h) (Or.inl ⟨by rfl,?_⟩) ?_ ?_;rotate_left
       ·intro w'
        go_simp
        with_reducible rfl
       rotate_left
       ·simp only[Act.put,jq5,jq6,jq7,i64_w,i32_w]
        rfl
       refine pure_ (i:=3) (N:=some 28) (v:=?_) (a':=?_) #[Z,Y,Y,Z,Y,Y,Y,Y] rfl rfl (any_of HT_.out (by kernel_rfl)) (fun _ _ _ h=>h) (Or.inl ⟨by rfl,?_⟩) ?_ ?_;rotate_left
       ·intro w'
        go_simp
        with_reducible rfl
       rotate_left
       ·simp only[Act.put,jq5,jq6,jq7,i64_w,i32_w]
        rfl
       refine take_ (i:=1) (N:=some 26) (v:=?_) (a':=?_) #[Z,Z,Y,Z,Y,Y,Y,Y] rfl rfl (take_ofW HT_.out HW_.out (by kernel_rfl)) (fun _ _ _ h=>h) (Or.inl ⟨by rfl,?_⟩) hHeld ?_ ?_;rotate_left
       ·rintro w' ⟨s0,s1,s2,s3⟩
        go_simp
        with_reducible rfl
       rotate_left
       ·simp only[Act.put,jq5,jq6,jq7,i64_w,i32_w]
        rfl
       refine pure_ (i:=2) (N:=some 27) (v:=?_) (a':=?_) #[Z,Z,Z,Z,Y,Y,Y,Y] rfl rfl (any_of HT_.out (by kernel_rfl)) (fun _ _ _ h=>h) (Or.inl ⟨by rfl,?_⟩) ?_ ?_;rotate_left
       ·intro w'
        go_simp
        with_reducible rfl
       rotate_left
       ·simp only[Act.put,jq5,jq6,jq7,i64_w,i32_w]
        rfl
       refine take_ (i:=4) (N:=some 29) (v:=?_) (a':=?_) #[Z,Z,Z,Z,Z,Y,Y,Y] rfl rfl (take_ofW HT_.out HW_.out (by kernel_rfl)) (fun _ _ _ h=>h) (Or.inl ⟨by rfl,?_⟩) hHeld ?_ ?_;rotate_left
       ·rintro w' ⟨s0,s1,s2,s3⟩
        go_simp
        with_reducible rfl
       rotate_left
       ·simp only[Act.put,jq5,jq6,jq7,i64_w,i32_w]
        rfl
       refine one_ (i:=5) (N:=some 30) #[Z,Z,Z,Z,Z,Z,Y,Y] rfl rfl (one_of HT_.out (by kernel_rfl)) (by decide) (fun K hK=>?_);refine goes_ Tryz.func57 (by kernel_rfl) rfl #[.string a0_2] (by rfl) rfl rfl (by(try simp only[jq0,jq1,jq2]);first|done|rfl|(simp only[jq3,jq4];rfl)) ?_
       with_reducible refine(qwq.calls k a0_2 t104 _ A20.out).mono ?_
       rintro e w25 ⟨rfl,hb⟩
       refine⟨_,rfl,?_⟩;replace BK101:=U.mk (jx (by solve_by_elim only[BK101.out,qk,qv,qj]) hb);replace HB:=U.mk (qx (by solve_by_elim (maxDepth:=20) only[HB.out,L,O,J,qz,GE101.out]) hb)
       (try clear hb)
       (try clear hb2)
       (try clear hk)
       (try clear hi)
       refine hK.out _ _ (by(repeat' apply And.intro) <;> first|exact(qq BK101.out _).trans rfl) (fun hHeld=>?_);clear hK K;refine norm_ (a':=?_) ?_ ?_;rotate_left
       ·show Act.put _ (some 30) _=_
        simp only[Act.put,jq5,jq6,jq7,i64_w,i32_w]
        rfl
       refine pure_ (i:=6) (N:=some 31) (v:=?_) (a':=?_) #[Z,Z,Z,Z,Z,Z,Z,Y] rfl rfl (any_of HT_.out (by kernel_rfl)) (fun _ _ _ h=>h) (Or.inl ⟨by rfl,?_⟩) ?_ ?_;rotate_left
       ·intro w'
        go_simp
        with_reducible rfl
       rotate_left
       ·simp only[Act.put,jq5,jq6,jq7,i64_w,i32_w]
        rfl
       refine pure_ (i:=7) (N:=some 2) (v:=?_) (a':=?_) #[Z,Z,Z,Z,Z,Z,Z,Z] rfl rfl (any_of HT_.out (by kernel_rfl)) (fun _ _ _ h=>h) (Or.inl ⟨by rfl,?_⟩) ?_ ?_;rotate_left
       ·intro w'
        go_simp
        with_reducible rfl
       rotate_left
       ·simp only[Act.put,jq5,jq6,jq7,i64_w,i32_w]
        rfl
       refine done_ (done_of HT_.out (by kernel_rfl)) ?_;try go_wp2
       go_ret
       exact⟨by first|rfl|(simp[*,zw,zv] <;> rfl),by solve_by_elim (maxDepth:=20) only[HB.out,L,O,J,qz,GE101.out]⟩
      ·rw[if_neg c21] at H;exact absurd H (by simp)
     ·rw[if_neg c19] at H;exact absurd H (by simp)
    ·rw[if_neg c18] at H;have c18b0:(a0_0 == 4)=false:=beq_eq_false_iff_ne.mpr c18;have c18b1:(a0_0 != 4)=true:=bne_iff_ne.mpr c18
     by_cases c26:a0_0=5
     ·rw[if_pos c26] at H;have c26b0:(a0_0 == 5)=true:=beq_iff_eq.mpr c26;have c26b1:(a0_0 != 5)=false:=bne_eq_false_iff_eq.mpr c26;clear c26;replace H:=jq8.mp H;obtain⟨t105,A270,H⟩:=H;try dsimp only at H
      have A27:=U.mk A270;clear A270;have H':=U.mk H;clear H;go_enter Tryz.func37,Tryz.ntmps37;go_wp2_with (first|((with_reducible refine gate_dst (N:=1) rfl ?_);refine box_event ?hg (N:=1) ?hd (cs:=#[.int .i64 a0_0,.int .i64 a0_1,.string a0_2,.string a0_3]) (t:=30) ?hr ?_;(case hd=>rfl);(case hg=>rfl);(case hr=>first|(go_simp;done)|(go_simp;rfl));intro gb101 hg w28 hbox hb;have BK101:=U.mk (hbox);have GW101:=U.mk ((by rw[hg];exact(zq (by solve_by_elim only[HB.out,L,O,J])):w.heap.size≤gb101));have GE101:=GW101;replace HB:=U.mk (qx (by solve_by_elim only[HB.out,L,O,J]) hb);clear hb hbox hg;obtain⟨y29_0,y29_1,y29_2,y29_3,z29_0,z29_1,z29_2,z29_3⟩:=bx4f BK101.out)|((with_reducible refine zx (f:=58) rfl ?_);refine goesL_ (some 36) rfl rfl Tryz.func58 (by kernel_rfl) rfl #[.int .i64 a0_1] rfl (by(try simp only[jq0,jq1,jq2]);first|done|rfl|(simp only[jq3,jq4];rfl)) ?_;(with_reducible refine(qwz.calls k a0_1 t105 _ A27.out).mono ?_);rintro e w30 ⟨rfl,hb⟩;refine⟨_,rfl,?_⟩;replace BK101:=U.mk (jx (by solve_by_elim only[BK101.out,qk,qv,qj]) hb);replace HB:=U.mk (qx (by solve_by_elim (maxDepth:=20) only[HB.out,L,O,J,qz,GE101.out]) hb);(try clear hb)))
      go_loopg [3] k (fun kq v3 w'=>∃ (x3_1:ByteArray),v3=.string x3_1∧U (qwj.l0 kq x3_1 a0_0 a0_1 a0_2 a0_3=some r)∧U (kq≤k)∧U (w'.heap[gb101]? = some (.cells #[.int .i64 a0_0,.int .i64 a0_1,.string a0_2,.string a0_3] 30 (0,0)))∧U (Below w.heap.size w w'))
      case atStart=>exact⟨(t105),(by first|rfl|(simp;done)|(simp[*];done)),H',⟨Nat.le_refl _⟩,⟨by(with_reducible repeat(first|refine qk ?_ _|refine qv ?_|refine qj ?_ _));exact BK101.out⟩,⟨by solve_by_elim (maxDepth:=20) only[HB.out,L,O,J,qz,GE101.out]⟩⟩
      case round =>
       clear H';try clear c1
       try clear c2
       try clear c2b0
       try clear c2b1
       try clear p2
       try clear c3
       try clear c3b0
       try clear c3b1
       try clear c5
       try clear p6
       try clear c8
       try clear c8b0
       try clear c8b1
       try clear c13
       try clear c13b0
       try clear c13b1
       try clear c18
       try clear c18b0
       try clear c18b1
       try clear c19
       try clear c19b0
       try clear c19b1
       try clear c19b2
       try clear c21
       try clear c21b0
       try clear c21b1
       try clear c21b2
       try clear c26
       try clear c26b0
       try clear c26b1
       try clear y11_0 y11_1 y11_2 y11_3 z11_0 z11_1 z11_2 z11_3
       try clear y16_0 y16_1 y16_2 y16_3 z16_0 z16_1 z16_2 z16_3
       try clear y23_0 y23_1 y23_2 y23_3 z23_0 z23_1 z23_2 z23_3
       try clear y29_0 y29_1 y29_2 y29_3 z29_0 z29_1 z29_2 z29_3
       try clear y5_0 y5_1 y5_2 y5_3 z5_0 z5_1 z5_2 z5_3
       try clear y7_0 y7_1 y7_2 y7_3 z7_0 z7_1 z7_2 z7_3
       obtain⟨x3_1,rfl,HA,HK1,BK101,HB⟩:=hrel
       cases gk with
       | zero=>exact absurd HA.out (by simp[qwj.l0])
       | succ k1 =>
        have H:=HA.out;clear HA;simp only[qwj.l0] at H
        by_cases c31:(x3_1.size:Int) < 5
        ·rw[if_pos c31] at H;have c31b0:decide ((x3_1.size:Int) < 5)=true:=decide_eq_true c31;have c31b1:decide (x3_1.size < 5)=true:=decide_eq_true (by omega);clear c31
         by_cases c32 : 1 + x3_1.size≤9223372036854775807
         ·rw[if_pos c32] at H;have c32b0:=eq_true c32;have c32b1:decide (1 + x3_1.size≤9223372036854775807)=true:=decide_eq_true c32;try have c32b2:(9223372036854775807 < 1 + x3_1.size)=False:=eq_false (Nat.not_lt.2 c32)
          have H':=U.mk H;clear H;go_wp2;go_roundg k1
          case measure=>have:=HK1.out;omega
          case rel=>exact⟨((⟨#[48]⟩ : ByteArray) ++ x3_1),(by first|rfl|(simp;done)|(simp[*];done)),H',⟨by have:=HK1.out;omega⟩,⟨by(with_reducible repeat(first|refine qk ?_ _|refine qv ?_|refine qj ?_ _));exact BK101.out⟩,⟨by solve_by_elim (maxDepth:=20) only[HB.out,L,O,J,qz,GE101.out]⟩⟩
         ·rw[if_neg c32] at H;exact absurd H (by simp)
        ·rw[if_neg c31] at H;have c31b0:decide ((x3_1.size:Int) < 5)=false:=decide_eq_false c31;have c31b1:decide (x3_1.size < 5)=false:=decide_eq_false (by omega);clear c31;obtain⟨ji33,hji33⟩ : ∃ j_:Int,(wrap64 ((x3_1.size:Int) - 4))=j_:=⟨_,rfl⟩;replace H:(if 0≤(ji33) then(if (ji33)≤(x3_1.size:Int) then(if (x3_1.extract 0 ((ji33):Int).toNat).size + 1≤9223372036854775807 then(if ((x3_1.extract 0 ((ji33):Int).toNat) ++ (⟨#[46]⟩ : ByteArray)).size + (x3_1.extract ((ji33):Int).toNat x3_1.size).size≤9223372036854775807 then(if a0_1 < 0 then(if 1 + (((x3_1.extract 0 ((ji33):Int).toNat) ++ (⟨#[46]⟩ : ByteArray)) ++ (x3_1.extract ((ji33):Int).toNat x3_1.size)).size≤9223372036854775807 then(some ((⟨#[45]⟩ : ByteArray) ++ (((x3_1.extract 0 ((ji33):Int).toNat) ++ (⟨#[46]⟩ : ByteArray)) ++ (x3_1.extract ((ji33):Int).toNat x3_1.size)))) else(none)) else(some (((x3_1.extract 0 ((ji33):Int).toNat) ++ (⟨#[46]⟩ : ByteArray)) ++ (x3_1.extract ((ji33):Int).toNat x3_1.size)))) else(none)) else(none)) else(none)) else(none))=some r:=by first|(rw[hji33] at H;exact H)|(simp only[hji33] at H ⊢;exact H)
         have hji33w:(IntKind.i64.wrap ((x3_1.size:Int) - 4))=ji33:=(i64_w _).trans hji33
         by_cases c34 : 0≤(ji33)
         ·rw[if_pos c34] at H;have c34b0:=eq_true c34;have c34b1:decide (0≤(ji33))=true:=decide_eq_true c34;clear c34
          by_cases c35:(ji33)≤(x3_1.size:Int)
          ·rw[if_pos c35] at H;have c35b0:=eq_true c35;have c35b1:decide ((ji33)≤(x3_1.size:Int))=true:=decide_eq_true c35;clear c35
           by_cases c36:(x3_1.extract 0 ((ji33):Int).toNat).size + 1≤9223372036854775807
           ·rw[if_pos c36] at H;have c36b0:=eq_true c36;have c36b1:decide ((x3_1.extract 0 ((ji33):Int).toNat).size + 1≤9223372036854775807)=true:=decide_eq_true c36;try have c36b2:(9223372036854775807 < (x3_1.extract 0 ((ji33):Int).toNat).size + 1)=False:=eq_false (Nat.not_lt.2 c36)
            have c36b5:(9223372036854775807 < ji33.toNat + 1)=False:=eq_false (by
             have e_:=c36
             have e1_:(ji33:Int).toNat≤x3_1.size:=by
              have e2_:=of_eq_true c35b0;clear hji33 hji33w
              omega
             simp only[ByteArray.size_append,ByteArray.size_extract,Nat.min_eq_left e1_,Nat.sub_zero,Nat.min_self,show(⟨#[46]⟩ : ByteArray).size=1 from rfl,show(⟨#[47]⟩ : ByteArray).size=1 from rfl] at e_;exact Nat.not_lt.2 e_)
            have c37b0:=eq_true (of_decide_eq_true (by assumption) : 0≤(ji33));have c38b0:=eq_true (of_decide_eq_true (by assumption):(ji33)≤(x3_1.size:Int))
            by_cases c39:((x3_1.extract 0 ((ji33):Int).toNat) ++ (⟨#[46]⟩ : ByteArray)).size + (x3_1.extract ((ji33):Int).toNat x3_1.size).size≤9223372036854775807
            ·rw[if_pos c39] at H;have c39b0:=eq_true c39;have c39b1:decide (((x3_1.extract 0 ((ji33):Int).toNat) ++ (⟨#[46]⟩ : ByteArray)).size + (x3_1.extract ((ji33):Int).toNat x3_1.size).size≤9223372036854775807)=true:=decide_eq_true c39;try have c39b2:(9223372036854775807 < ((x3_1.extract 0 ((ji33):Int).toNat) ++ (⟨#[46]⟩ : ByteArray)).size + (x3_1.extract ((ji33):Int).toNat x3_1.size).size)=False:=eq_false (Nat.not_lt.2 c39)
             have c39b5:(9223372036854775807 < ji33.toNat + 1 + (x3_1.size - ji33.toNat))=False:=eq_false (by
              have e_:=c39
              have e1_:(ji33:Int).toNat≤x3_1.size:=by
               have e2_:=of_eq_true c35b0;clear hji33 hji33w
               omega
              simp only[ByteArray.size_append,ByteArray.size_extract,Nat.min_eq_left e1_,Nat.sub_zero,Nat.min_self,show(⟨#[46]⟩ : ByteArray).size=1 from rfl,show(⟨#[47]⟩ : ByteArray).size=1 from rfl] at e_;exact Nat.not_lt.2 e_)
             try (have c39b9:=c39b2;simp only[ByteArray.size_append,show(⟨#[46]⟩ : ByteArray).size=1 from rfl] at c39b9)
             by_cases c40:a0_1 < 0
             ·rw[if_pos c40] at H;have c40b0:decide (a0_1 < 0)=true:=decide_eq_true c40;clear c40
              by_cases c41 : 1 + (((x3_1.extract 0 ((ji33):Int).toNat) ++ (⟨#[46]⟩ : ByteArray)) ++ (x3_1.extract ((ji33):Int).toNat x3_1.size)).size≤9223372036854775807
              ·rw[if_pos c41] at H;have c41b0:=eq_true c41;have c41b1:decide (1 + (((x3_1.extract 0 ((ji33):Int).toNat) ++ (⟨#[46]⟩ : ByteArray)) ++ (x3_1.extract ((ji33):Int).toNat x3_1.size)).size≤9223372036854775807)=true:=decide_eq_true c41;try have c41b2:(9223372036854775807 < 1 + (((x3_1.extract 0 ((ji33):Int).toNat) ++ (⟨#[46]⟩ : ByteArray)) ++ (x3_1.extract ((ji33):Int).toNat x3_1.size)).size)=False:=eq_false (Nat.not_lt.2 c41)
               have c41b5:(9223372036854775807 < 1 + (ji33.toNat + 1 + (x3_1.size - ji33.toNat)))=False:=eq_false (by
                have e_:=c41
                have e1_:(ji33:Int).toNat≤x3_1.size:=by
                 have e2_:=of_eq_true c35b0;clear hji33 hji33w
                 omega
                simp only[ByteArray.size_append,ByteArray.size_extract,Nat.min_eq_left e1_,Nat.sub_zero,Nat.min_self,show(⟨#[46]⟩ : ByteArray).size=1 from rfl,show(⟨#[47]⟩ : ByteArray).size=1 from rfl] at e_;exact Nat.not_lt.2 e_)
               try (have c41b9:=c41b2;simp only[ByteArray.size_append,show(⟨#[46]⟩ : ByteArray).size=1 from rfl] at c41b9)
               obtain rfl:=Option.some.inj H;try go_wp2
               go_quiet (fail)
               replace BK101:=U.mk (qk BK101.out nq);replace HB:=U.mk (O HB.out nq);generalize World.drewN wr nq=w42 at BK101 HB ⊢;obtain⟨y43_0,y43_1,y43_2,y43_3,z43_0,z43_1,z43_2,z43_3⟩:=bx4f BK101.out;try go_wp2
               go_ret
               exact⟨by first|rfl|(simp[zw,zv] <;> rfl)|(simp only[← hji33];first|rfl|(simp[zw,zv] <;> rfl))|(simp[*,zw,zv] <;> rfl),by solve_by_elim (maxDepth:=20) only[HB.out,L,O,J,qz,GE101.out]⟩
              ·rw[if_neg c41] at H;exact absurd H (by simp)
             ·rw[if_neg c40] at H;have c40b0:decide (a0_1 < 0)=false:=decide_eq_false c40;clear c40;obtain rfl:=Option.some.inj H;try go_wp2
              go_quiet (fail)
              replace BK101:=U.mk (qk BK101.out nq);replace HB:=U.mk (O HB.out nq);generalize World.drewN wr nq=w44 at BK101 HB ⊢;obtain⟨y45_0,y45_1,y45_2,y45_3,z45_0,z45_1,z45_2,z45_3⟩:=bx4f BK101.out;try go_wp2
              go_ret
              exact⟨by first|rfl|(simp[zw,zv] <;> rfl)|(simp only[← hji33];first|rfl|(simp[zw,zv] <;> rfl))|(simp[*,zw,zv] <;> rfl),by solve_by_elim (maxDepth:=20) only[HB.out,L,O,J,qz,GE101.out]⟩
            ·rw[if_neg c39] at H;exact absurd H (by simp)
           ·rw[if_neg c36] at H;exact absurd H (by simp)
          ·rw[if_neg c35] at H;exact absurd H (by simp)
         ·rw[if_neg c34] at H;exact absurd H (by simp)
     ·rw[if_neg c26] at H;have c26b0:(a0_0 == 5)=false:=beq_eq_false_iff_ne.mpr c26;have c26b1:(a0_0 != 5)=true:=bne_iff_ne.mpr c26
      by_cases c46:a0_0=6
      ·rw[if_pos c46] at H;have c46b0:(a0_0 == 6)=true:=beq_iff_eq.mpr c46;have c46b1:(a0_0 != 6)=false:=bne_eq_false_iff_eq.mpr c46;clear c46;replace H:=jq8.mp H;obtain⟨⟨t106,t107⟩,A470,H⟩:=H;try dsimp only at H
       have A47:=U.mk A470;clear A470;replace H:=jq8.mp H;obtain⟨t108,A480,H⟩:=H;try dsimp only at H
       have A48:=U.mk A480;clear A480
       by_cases c49:t108.size + 1≤9223372036854775807
       ·rw[if_pos c49] at H;have c49b0:=eq_true c49;have c49b1:decide (t108.size + 1≤9223372036854775807)=true:=decide_eq_true c49;try have c49b2:(9223372036854775807 < t108.size + 1)=False:=eq_false (Nat.not_lt.2 c49)
        replace H:=jq8.mp H;obtain⟨t109,A500,H⟩:=H;try dsimp only at H
        have A50:=U.mk A500;clear A500
        by_cases c51:(t108 ++ (⟨#[46]⟩ : ByteArray)).size + t109.size≤9223372036854775807
        ·rw[if_pos c51] at H;have c51b0:=eq_true c51;have c51b1:decide ((t108 ++ (⟨#[46]⟩ : ByteArray)).size + t109.size≤9223372036854775807)=true:=decide_eq_true c51;try have c51b2:(9223372036854775807 < (t108 ++ (⟨#[46]⟩ : ByteArray)).size + t109.size)=False:=eq_false (Nat.not_lt.2 c51)
         try (have c51b9:=c51b2;simp only[ByteArray.size_append,show(⟨#[46]⟩ : ByteArray).size=1 from rfl] at c51b9)
         by_cases c52:((t108 ++ (⟨#[46]⟩ : ByteArray)) ++ t109).size + 1≤9223372036854775807
         ·rw[if_pos c52] at H;have c52b0:=eq_true c52;have c52b1:decide (((t108 ++ (⟨#[46]⟩ : ByteArray)) ++ t109).size + 1≤9223372036854775807)=true:=decide_eq_true c52;try have c52b2:(9223372036854775807 < ((t108 ++ (⟨#[46]⟩ : ByteArray)) ++ t109).size + 1)=False:=eq_false (Nat.not_lt.2 c52)
          try (have c52b9:=c52b2;simp only[ByteArray.size_append,show(⟨#[46]⟩ : ByteArray).size=1 from rfl] at c52b9)
          replace H:=jq8.mp H;obtain⟨t110,A530,H⟩:=H;try dsimp only at H
          have A53:=U.mk A530;clear A530
          by_cases c54:(((t108 ++ (⟨#[46]⟩ : ByteArray)) ++ t109) ++ (⟨#[46]⟩ : ByteArray)).size + t110.size≤9223372036854775807
          ·rw[if_pos c54] at H;have c54b0:=eq_true c54;have c54b1:decide ((((t108 ++ (⟨#[46]⟩ : ByteArray)) ++ t109) ++ (⟨#[46]⟩ : ByteArray)).size + t110.size≤9223372036854775807)=true:=decide_eq_true c54;try have c54b2:(9223372036854775807 < (((t108 ++ (⟨#[46]⟩ : ByteArray)) ++ t109) ++ (⟨#[46]⟩ : ByteArray)).size + t110.size)=False:=eq_false (Nat.not_lt.2 c54)
           try (have c54b9:=c54b2;simp only[ByteArray.size_append,show(⟨#[46]⟩ : ByteArray).size=1 from rfl] at c54b9)
           by_cases c55:((((t108 ++ (⟨#[46]⟩ : ByteArray)) ++ t109) ++ (⟨#[46]⟩ : ByteArray)) ++ t110).size + 1≤9223372036854775807
           ·rw[if_pos c55] at H;have c55b0:=eq_true c55;have c55b1:decide (((((t108 ++ (⟨#[46]⟩ : ByteArray)) ++ t109) ++ (⟨#[46]⟩ : ByteArray)) ++ t110).size + 1≤9223372036854775807)=true:=decide_eq_true c55;try have c55b2:(9223372036854775807 < ((((t108 ++ (⟨#[46]⟩ : ByteArray)) ++ t109) ++ (⟨#[46]⟩ : ByteArray)) ++ t110).size + 1)=False:=eq_false (Nat.not_lt.2 c55)
            try (have c55b9:=c55b2;simp only[ByteArray.size_append,show(⟨#[46]⟩ : ByteArray).size=1 from rfl] at c55b9)
            replace H:=jq8.mp H;obtain⟨t111,A560,H⟩:=H;try dsimp only at H
            have A56:=U.mk A560;clear A560
            by_cases c57:(((((t108 ++ (⟨#[46]⟩ : ByteArray)) ++ t109) ++ (⟨#[46]⟩ : ByteArray)) ++ t110) ++ (⟨#[46]⟩ : ByteArray)).size + t111.size≤9223372036854775807
            ·rw[if_pos c57] at H;have c57b0:=eq_true c57;have c57b1:decide ((((((t108 ++ (⟨#[46]⟩ : ByteArray)) ++ t109) ++ (⟨#[46]⟩ : ByteArray)) ++ t110) ++ (⟨#[46]⟩ : ByteArray)).size + t111.size≤9223372036854775807)=true:=decide_eq_true c57;try have c57b2:(9223372036854775807 < (((((t108 ++ (⟨#[46]⟩ : ByteArray)) ++ t109) ++ (⟨#[46]⟩ : ByteArray)) ++ t110) ++ (⟨#[46]⟩ : ByteArray)).size + t111.size)=False:=eq_false (Nat.not_lt.2 c57)
             try (have c57b9:=c57b2;simp only[ByteArray.size_append,show(⟨#[46]⟩ : ByteArray).size=1 from rfl] at c57b9)
             by_cases c58:((((((t108 ++ (⟨#[46]⟩ : ByteArray)) ++ t109) ++ (⟨#[46]⟩ : ByteArray)) ++ t110) ++ (⟨#[46]⟩ : ByteArray)) ++ t111).size + 1≤9223372036854775807
             ·rw[if_pos c58] at H;have c58b0:=eq_true c58;have c58b1:decide (((((((t108 ++ (⟨#[46]⟩ : ByteArray)) ++ t109) ++ (⟨#[46]⟩ : ByteArray)) ++ t110) ++ (⟨#[46]⟩ : ByteArray)) ++ t111).size + 1≤9223372036854775807)=true:=decide_eq_true c58;try have c58b2:(9223372036854775807 < ((((((t108 ++ (⟨#[46]⟩ : ByteArray)) ++ t109) ++ (⟨#[46]⟩ : ByteArray)) ++ t110) ++ (⟨#[46]⟩ : ByteArray)) ++ t111).size + 1)=False:=eq_false (Nat.not_lt.2 c58)
              try (have c58b9:=c58b2;simp only[ByteArray.size_append,show(⟨#[46]⟩ : ByteArray).size=1 from rfl] at c58b9)
              replace H:=jq8.mp H;obtain⟨t112,A590,H⟩:=H;try dsimp only at H
              have A59:=U.mk A590;clear A590
              by_cases c60:(((((((t108 ++ (⟨#[46]⟩ : ByteArray)) ++ t109) ++ (⟨#[46]⟩ : ByteArray)) ++ t110) ++ (⟨#[46]⟩ : ByteArray)) ++ t111) ++ (⟨#[47]⟩ : ByteArray)).size + t112.size≤9223372036854775807
              ·rw[if_pos c60] at H;have c60b0:=eq_true c60;have c60b1:decide ((((((((t108 ++ (⟨#[46]⟩ : ByteArray)) ++ t109) ++ (⟨#[46]⟩ : ByteArray)) ++ t110) ++ (⟨#[46]⟩ : ByteArray)) ++ t111) ++ (⟨#[47]⟩ : ByteArray)).size + t112.size≤9223372036854775807)=true:=decide_eq_true c60;try have c60b2:(9223372036854775807 < (((((((t108 ++ (⟨#[46]⟩ : ByteArray)) ++ t109) ++ (⟨#[46]⟩ : ByteArray)) ++ t110) ++ (⟨#[46]⟩ : ByteArray)) ++ t111) ++ (⟨#[47]⟩ : ByteArray)).size + t112.size)=False:=eq_false (Nat.not_lt.2 c60)
               try (have c60b9:=c60b2;simp only[ByteArray.size_append,show(⟨#[46]⟩ : ByteArray).size=1 from rfl,show(⟨#[47]⟩ : ByteArray).size=1 from rfl] at c60b9)
               obtain rfl:=Option.some.inj H;go_enter Tryz.func37,Tryz.ntmps37;try go_wp2_with (first|((with_reducible refine gate_dst (N:=1) rfl ?_);refine box_event ?hg (N:=1) ?hd (cs:=#[.int .i64 a0_0,.int .i64 a0_1,.string a0_2,.string a0_3]) (t:=30) ?hr ?_;(case hd=>rfl);(case hg=>rfl);(case hr=>first|(go_simp;done)|(go_simp;rfl));intro gb101 hg w61 hbox hb;have BK101:=U.mk (hbox);have GW101:=U.mk ((by rw[hg];exact(zq (by solve_by_elim only[HB.out,L,O,J])):w.heap.size≤gb101));have GE101:=GW101;replace HB:=U.mk (qx (by solve_by_elim only[HB.out,L,O,J]) hb);clear hb hbox hg;obtain⟨y62_0,y62_1,y62_2,y62_3,z62_0,z62_1,z62_2,z62_3⟩:=bx4f BK101.out)|((with_reducible refine zx (f:=59) rfl ?_);refine goesL_ (some 64) rfl rfl Tryz.func59 (by kernel_rfl) rfl #[.agg #[.int .i64 a0_0,.int .i64 a0_1,.string a0_2,.string a0_3]] rfl (by(try simp only[jq0,jq1,jq2]);first|done|rfl|(simp only[jq3,jq4];rfl)) ?_;(with_reducible refine(qkx.calls k a0_0 a0_1 a0_2 a0_3 t106 t107 _ A47.out).mono ?_);rintro e w63 ⟨rfl,hb⟩;refine⟨_,rfl,?_⟩;replace BK101:=U.mk (jx (by solve_by_elim only[BK101.out,qk,qv,qj]) hb);replace HB:=U.mk (qx (by solve_by_elim (maxDepth:=20) only[HB.out,L,O,J,qz,GE101.out]) hb);(try clear hb)))
               replace BK101:=U.mk (qv BK101.out);replace HB:=U.mk (J HB.out);refine start_ (n:=27) (S:=fun w'=>w'.cell? ⟨gb101,0,none⟩ = some (.int .i64 a0_0)∧w'.cell? ⟨gb101,1,none⟩ = some (.int .i64 a0_1)∧w'.cell? ⟨gb101,2,none⟩ = some (.string a0_2)∧w'.cell? ⟨gb101,3,none⟩ = some (.string a0_3)) (ds:=[]) #[Y,Y,Y,Y,Y,Y,Y,Y,Y,Y,Y,Y,Y,Y,Y,Y,Y,Y,Y,Y,Y,Y,Y,Y,Y,Y,Y] (by kernel_rfl) rfl rfl ⟨(qq BK101.out 0).trans rfl,(qq BK101.out 1).trans rfl,(qq BK101.out 2).trans rfl,(qq BK101.out 3).trans rfl⟩ (fun hHeld=>?_);refine with_tabW qwj.tab22 qwj.bits22 (fun HT_ HW_=>?_)
               generalize w63.drew=w64 at BK101 HB hHeld ⊢;refine pure_ (i:=0) (N:=some 67) (v:=?_) (a':=?_) #[Z,Y,Y,Y,Y,Y,Y,Y,Y,Y,Y,Y,Y,Y,Y,Y,Y,Y,Y,Y,Y,Y,Y,Y,Y,Y,Y] rfl rfl (any_of HT_.out (by kernel_rfl)) (fun _ _ _ h=>h) (Or.inl ⟨by rfl,?_⟩) ?_ ?_;rotate_left
               ·intro w'
                go_simp
                with_reducible rfl
               rotate_left
               ·simp only[Act.put,jq5,jq6,jq7,i64_w,i32_w]
                rfl
               refine pure_ (i:=1) (N:=some 68) (v:=?_) (a':=?_) #[Z,Z,Y,Y,Y,Y,Y,Y,Y,Y,Y,Y,Y,Y,Y,Y,Y,Y,Y,Y,Y,Y,Y,Y,Y,Y,Y] rfl rfl (any_of HT_.out (by kernel_rfl)) (fun _ _ _ h=>h) (Or.inl ⟨by rfl,?_⟩) ?_ ?_;rotate_left
               ·intro w'
                go_simp
                with_reducible rfl
               rotate_left
               ·simp only[Act.put,jq5,jq6,jq7,i64_w,i32_w]
                rfl
               refine pure_ (i:=4) (N:=some 71) (v:=?_) (a':=?_) #[Z,Z,Y,Y,Z,Y,Y,Y,Y,Y,Y,Y,Y,Y,Y,Y,Y,Y,Y,Y,Y,Y,Y,Y,Y,Y,Y] rfl rfl (any_of HT_.out (by kernel_rfl)) (fun _ _ _ h=>h) (Or.inl ⟨by rfl,?_⟩) ?_ ?_;rotate_left
               ·intro w'
                go_simp
                with_reducible rfl
               rotate_left
               ·simp only[Act.put,jq5,jq6,jq7,i64_w,i32_w]
                rfl
               refine pure_ (i:=5) (N:=some 72) (v:=?_) (a':=?_) #[Z,Z,Y,Y,Z,Z,Y,Y,Y,Y,Y,Y,Y,Y,Y,Y,Y,Y,Y,Y,Y,Y,Y,Y,Y,Y,Y] rfl rfl (any_of HT_.out (by kernel_rfl)) (fun _ _ _ h=>h) (Or.inl ⟨by rfl,?_⟩) ?_ ?_;rotate_left
               ·intro w'
                go_simp
                with_reducible rfl
               rotate_left
               ·simp only[Act.put,jq5,jq6,jq7,i64_w,i32_w]
                rfl
               refine pure_ (i:=6) (N:=some 73) (v:=?_) (a':=?_) #[Z,Z,Y,Y,Z,Z,Z,Y,Y,Y,Y,Y,Y,Y,Y,Y,Y,Y,Y,Y,Y,Y,Y,Y,Y,Y,Y] rfl rfl (any_of HT_.out (by kernel_rfl)) (fun _ _ _ h=>h) (Or.inl ⟨by rfl,?_⟩) ?_ ?_;rotate_left
               ·intro w'
                go_simp
                with_reducible rfl
               rotate_left
               ·simp only[Act.put,jq5,jq6,jq7,i64_w,i32_w]
                rfl
               refine pure_ (i:=10) (N:=some 77) (v:=?_) (a':=?_) #[Z,Z,Y,Y,Z,Z,Z,Y,Y,Y,Z,Y,Y,Y,Y,Y,Y,Y,Y,Y,Y,Y,Y,Y,Y,Y,Y] rfl rfl (any_of HT_.out (by kernel_rfl)) (fun _ _ _ h=>h) (Or.inl ⟨by rfl,?_⟩) ?_ ?_;rotate_left
               ·intro w'
                go_simp
                with_reducible rfl
               rotate_left
               ·simp only[Act.put,jq5,jq6,jq7,i64_w,i32_w]
                rfl
               refine pure_ (i:=11) (N:=some 78) (v:=?_) (a':=?_) #[Z,Z,Y,Y,Z,Z,Z,Y,Y,Y,Z,Z,Y,Y,Y,Y,Y,Y,Y,Y,Y,Y,Y,Y,Y,Y,Y] rfl rfl (any_of HT_.out (by kernel_rfl)) (fun _ _ _ h=>h) (Or.inl ⟨by rfl,?_⟩) ?_ ?_;rotate_left
               ·intro w'
                go_simp
                with_reducible rfl
               rotate_left
               ·simp only[Act.put,jq5,jq6,jq7,i64_w,i32_w]
                rfl
               refine pure_ (i:=12) (N:=some 79) (v:=?_) (a':=?_) #[Z,Z,Y,Y,Z,Z,Z,Y,Y,Y,Z,Z,Z,Y,Y,Y,Y,Y,Y,Y,Y,Y,Y,Y,Y,Y,Y] rfl rfl (any_of HT_.out (by kernel_rfl)) (fun _ _ _ h=>h) (Or.inl ⟨by rfl,?_⟩) ?_ ?_;rotate_left
               ·intro w'
                go_simp
                with_reducible rfl
               rotate_left
               ·simp only[Act.put,jq5,jq6,jq7,i64_w,i32_w]
                rfl
               refine pure_ (i:=16) (N:=some 83) (v:=?_) (a':=?_) #[Z,Z,Y,Y,Z,Z,Z,Y,Y,Y,Z,Z,Z,Y,Y,Y,Z,Y,Y,Y,Y,Y,Y,Y,Y,Y,Y] rfl rfl (any_of HT_.out (by kernel_rfl)) (fun _ _ _ h=>h) (Or.inl ⟨by rfl,?_⟩) ?_ ?_;rotate_left
               ·intro w'
                go_simp
                with_reducible rfl
               rotate_left
               ·simp only[Act.put,jq5,jq6,jq7,i64_w,i32_w]
                rfl
               refine pure_ (i:=17) (N:=some 84) (v:=?_) (a':=?_) #[Z,Z,Y,Y,Z,Z,Z,Y,Y,Y,Z,Z,Z,Y,Y,Y,Z,Z,Y,Y,Y,Y,Y,Y,Y,Y,Y] rfl rfl (any_of HT_.out (by kernel_rfl)) (fun _ _ _ h=>h) (Or.inl ⟨by rfl,?_⟩) ?_ ?_;rotate_left
               ·intro w'
                go_simp
                with_reducible rfl
               rotate_left
               ·simp only[Act.put,jq5,jq6,jq7,i64_w,i32_w]
                rfl
               refine pure_ (i:=21) (N:=some 88) (v:=?_) (a':=?_) #[Z,Z,Y,Y,Z,Z,Z,Y,Y,Y,Z,Z,Z,Y,Y,Y,Z,Z,Y,Y,Y,Z,Y,Y,Y,Y,Y] rfl rfl (any_of HT_.out (by kernel_rfl)) (fun _ _ _ h=>h) (Or.inl ⟨by rfl,?_⟩) ?_ ?_;rotate_left
               ·intro w'
                go_simp
                with_reducible rfl
               rotate_left
               ·simp only[Act.put,jq5,jq6,jq7,i64_w,i32_w]
                rfl
               refine take_ (i:=22) (N:=some 89) (v:=?_) (a':=?_) #[Z,Z,Y,Y,Z,Z,Z,Y,Y,Y,Z,Z,Z,Y,Y,Y,Z,Z,Y,Y,Y,Z,Z,Y,Y,Y,Y] rfl rfl (take_ofW HT_.out HW_.out (by kernel_rfl)) (fun _ _ _ h=>h) (Or.inl ⟨by rfl,?_⟩) hHeld ?_ ?_;rotate_left
               ·rintro w' ⟨s0,s1,s2,s3⟩
                go_simp
                with_reducible rfl
               rotate_left
               ·simp only[Act.put,jq5,jq6,jq7,i64_w,i32_w]
                rfl
               refine pure_ (i:=23) (N:=some 90) (v:=?_) (a':=?_) #[Z,Z,Y,Y,Z,Z,Z,Y,Y,Y,Z,Z,Z,Y,Y,Y,Z,Z,Y,Y,Y,Z,Z,Z,Y,Y,Y] rfl rfl (any_of HT_.out (by kernel_rfl)) (fun _ _ _ h=>h) (Or.inl ⟨by rfl,?_⟩) ?_ ?_;rotate_left
               ·intro w'
                go_simp
                with_reducible rfl
               rotate_left
               ·simp only[Act.put,jq5,jq6,jq7,i64_w,i32_w]
                rfl
               refine one_ (i:=2) (N:=some 69) #[Z,Z,Z,Y,Z,Z,Z,Y,Y,Y,Z,Z,Z,Y,Y,Y,Z,Z,Y,Y,Y,Z,Z,Z,Y,Y,Y] rfl rfl (one_of HT_.out (by kernel_rfl)) (by decide) (fun K hK=>?_);refine goes_ Tryz.func56 (by kernel_rfl) rfl #[.int .i64 (wrap64 (Int.tdiv t106 16777216))] (by rfl) rfl rfl (by(try simp only[jq0,jq1,jq2]);first|done|rfl|(simp only[jq3,jq4];rfl)) ?_
               with_reducible refine(qvv.calls k (wrap64 (Int.tdiv t106 16777216)) t108 _ A48.out).mono ?_
               rintro e w65 ⟨rfl,hb⟩
               refine⟨_,rfl,?_⟩;replace BK101:=U.mk (jx (by solve_by_elim only[BK101.out,qk,qv,qj]) hb);replace HB:=U.mk (qx (by solve_by_elim (maxDepth:=20) only[HB.out,L,O,J,qz,GE101.out]) hb)
               (try clear hb)
               (try clear hb2)
               (try clear hk)
               (try clear hi)
               refine hK.out _ _ (by(repeat' apply And.intro) <;> first|exact(qq BK101.out _).trans rfl) (fun hHeld=>?_);clear hK K;refine norm_ (a':=?_) ?_ ?_;rotate_left
               ·show Act.put _ (some 69) _=_
                simp only[Act.put,jq5,jq6,jq7,i64_w,i32_w]
                rfl
               refine pure_ (i:=3) (N:=some 70) (v:=?_) (a':=?_) #[Z,Z,Z,Z,Z,Z,Z,Y,Y,Y,Z,Z,Z,Y,Y,Y,Z,Z,Y,Y,Y,Z,Z,Z,Y,Y,Y] rfl rfl (any_of HT_.out (by kernel_rfl)) (fun _ _ _ h=>h) (Or.inl ⟨by rfl,?_⟩) ?_ ?_;rotate_left
               ·intro w'
                go_simp
                with_reducible rfl
               rotate_left
               ·simp only[Act.put,jq5,jq6,jq7,i64_w,i32_w]
                rfl
               refine one_ (i:=7) (N:=some 74) #[Z,Z,Z,Z,Z,Z,Z,Z,Y,Y,Z,Z,Z,Y,Y,Y,Z,Z,Y,Y,Y,Z,Z,Z,Y,Y,Y] rfl rfl (one_of HT_.out (by kernel_rfl)) (by decide) (fun K hK=>?_);refine goes_ Tryz.func56 (by kernel_rfl) rfl #[.int .i64 (Int.tmod (wrap64 (Int.tdiv t106 65536)) 256)] (by rfl) rfl rfl (by(try simp only[jq0,jq1,jq2]);first|done|rfl|(simp only[jq3,jq4];rfl)) ?_
               with_reducible refine(qvv.calls k (Int.tmod (wrap64 (Int.tdiv t106 65536)) 256) t109 _ A50.out).mono ?_
               rintro e w66 ⟨rfl,hb⟩
               refine⟨_,rfl,?_⟩;replace BK101:=U.mk (jx (by solve_by_elim only[BK101.out,qk,qv,qj]) hb);replace HB:=U.mk (qx (by solve_by_elim (maxDepth:=20) only[HB.out,L,O,J,qz,GE101.out]) hb)
               (try clear hb)
               (try clear hb2)
               (try clear hk)
               (try clear hi)
               refine hK.out _ _ (by(repeat' apply And.intro) <;> first|exact(qq BK101.out _).trans rfl) (fun hHeld=>?_);clear hK K;refine norm_ (a':=?_) ?_ ?_;rotate_left
               ·show Act.put _ (some 74) _=_
                simp only[Act.put,jq5,jq6,jq7,i64_w,i32_w]
                rfl
               refine pure_ (i:=8) (N:=some 75) (v:=?_) (a':=?_) #[Z,Z,Z,Z,Z,Z,Z,Z,Z,Y,Z,Z,Z,Y,Y,Y,Z,Z,Y,Y,Y,Z,Z,Z,Y,Y,Y] rfl rfl (any_of HT_.out (by kernel_rfl)) (fun _ _ _ h=>h) (Or.inl ⟨by rfl,?_⟩) ?_ ?_;rotate_left
               ·intro w'
                go_simp
                with_reducible rfl
               rotate_left
               ·simp only[Act.put,jq5,jq6,jq7,i64_w,i32_w]
                rfl
               refine pure_ (i:=9) (N:=some 76) (v:=?_) (a':=?_) #[Z,Z,Z,Z,Z,Z,Z,Z,Z,Z,Z,Z,Z,Y,Y,Y,Z,Z,Y,Y,Y,Z,Z,Z,Y,Y,Y] rfl rfl (any_of HT_.out (by kernel_rfl)) (fun _ _ _ h=>h) (Or.inl ⟨by rfl,?_⟩) ?_ ?_;rotate_left
               ·intro w'
                go_simp
                with_reducible rfl
               rotate_left
               ·simp only[Act.put,jq5,jq6,jq7,i64_w,i32_w]
                rfl
               refine one_ (i:=13) (N:=some 80) #[Z,Z,Z,Z,Z,Z,Z,Z,Z,Z,Z,Z,Z,Z,Y,Y,Z,Z,Y,Y,Y,Z,Z,Z,Y,Y,Y] rfl rfl (one_of HT_.out (by kernel_rfl)) (by decide) (fun K hK=>?_);refine goes_ Tryz.func56 (by kernel_rfl) rfl #[.int .i64 (Int.tmod (wrap64 (Int.tdiv t106 256)) 256)] (by rfl) rfl rfl (by(try simp only[jq0,jq1,jq2]);first|done|rfl|(simp only[jq3,jq4];rfl)) ?_
               with_reducible refine(qvv.calls k (Int.tmod (wrap64 (Int.tdiv t106 256)) 256) t110 _ A53.out).mono ?_
               rintro e w67 ⟨rfl,hb⟩
               refine⟨_,rfl,?_⟩;replace BK101:=U.mk (jx (by solve_by_elim only[BK101.out,qk,qv,qj]) hb);replace HB:=U.mk (qx (by solve_by_elim (maxDepth:=20) only[HB.out,L,O,J,qz,GE101.out]) hb)
               (try clear hb)
               (try clear hb2)
               (try clear hk)
               (try clear hi)
               refine hK.out _ _ (by(repeat' apply And.intro) <;> first|exact(qq BK101.out _).trans rfl) (fun hHeld=>?_);clear hK K;refine norm_ (a':=?_) ?_ ?_;rotate_left
               ·show Act.put _ (some 80) _=_
                simp only[Act.put,jq5,jq6,jq7,i64_w,i32_w]
                rfl
               refine pure_ (i:=14) (N:=some 81) (v:=?_) (a':=?_) #[Z,Z,Z,Z,Z,Z,Z,Z,Z,Z,Z,Z,Z,Z,Z,Y,Z,Z,Y,Y,Y,Z,Z,Z,Y,Y,Y] rfl rfl (any_of HT_.out (by kernel_rfl)) (fun _ _ _ h=>h) (Or.inl ⟨by rfl,?_⟩) ?_ ?_;rotate_left
               ·intro w'
                go_simp
                with_reducible rfl
               rotate_left
               ·simp only[Act.put,jq5,jq6,jq7,i64_w,i32_w]
                rfl
               refine pure_ (i:=15) (N:=some 82) (v:=?_) (a':=?_) #[Z,Z,Z,Z,Z,Z,Z,Z,Z,Z,Z,Z,Z,Z,Z,Z,Z,Z,Y,Y,Y,Z,Z,Z,Y,Y,Y] rfl rfl (any_of HT_.out (by kernel_rfl)) (fun _ _ _ h=>h) (Or.inl ⟨by rfl,?_⟩) ?_ ?_;rotate_left
               ·intro w'
                go_simp
                with_reducible rfl
               rotate_left
               ·simp only[Act.put,jq5,jq6,jq7,i64_w,i32_w]
                rfl
               refine one_ (i:=18) (N:=some 85) #[Z,Z,Z,Z,Z,Z,Z,Z,Z,Z,Z,Z,Z,Z,Z,Z,Z,Z,Z,Y,Y,Z,Z,Z,Y,Y,Y] rfl rfl (one_of HT_.out (by kernel_rfl)) (by decide) (fun K hK=>?_);refine goes_ Tryz.func56 (by kernel_rfl) rfl #[.int .i64 (Int.tmod t106 256)] (by rfl) rfl rfl (by(try simp only[jq0,jq1,jq2]);first|done|rfl|(simp only[jq3,jq4];rfl)) ?_
               with_reducible refine(qvv.calls k (Int.tmod t106 256) t111 _ A56.out).mono ?_
               rintro e w68 ⟨rfl,hb⟩
               refine⟨_,rfl,?_⟩;replace BK101:=U.mk (jx (by solve_by_elim only[BK101.out,qk,qv,qj]) hb);replace HB:=U.mk (qx (by solve_by_elim (maxDepth:=20) only[HB.out,L,O,J,qz,GE101.out]) hb)
               (try clear hb)
               (try clear hb2)
               (try clear hk)
               (try clear hi)
               refine hK.out _ _ (by(repeat' apply And.intro) <;> first|exact(qq BK101.out _).trans rfl) (fun hHeld=>?_);clear hK K;refine norm_ (a':=?_) ?_ ?_;rotate_left
               ·show Act.put _ (some 85) _=_
                simp only[Act.put,jq5,jq6,jq7,i64_w,i32_w]
                rfl
               refine pure_ (i:=19) (N:=some 86) (v:=?_) (a':=?_) #[Z,Z,Z,Z,Z,Z,Z,Z,Z,Z,Z,Z,Z,Z,Z,Z,Z,Z,Z,Z,Y,Z,Z,Z,Y,Y,Y] rfl rfl (any_of HT_.out (by kernel_rfl)) (fun _ _ _ h=>h) (Or.inl ⟨by rfl,?_⟩) ?_ ?_;rotate_left
               ·intro w'
                go_simp
                with_reducible rfl
               rotate_left
               ·simp only[Act.put,jq5,jq6,jq7,i64_w,i32_w]
                rfl
               refine pure_ (i:=20) (N:=some 87) (v:=?_) (a':=?_) #[Z,Z,Z,Z,Z,Z,Z,Z,Z,Z,Z,Z,Z,Z,Z,Z,Z,Z,Z,Z,Z,Z,Z,Z,Y,Y,Y] rfl rfl (any_of HT_.out (by kernel_rfl)) (fun _ _ _ h=>h) (Or.inl ⟨by rfl,?_⟩) ?_ ?_;rotate_left
               ·intro w'
                go_simp
                with_reducible rfl
               rotate_left
               ·simp only[Act.put,jq5,jq6,jq7,i64_w,i32_w]
                rfl
               refine one_ (i:=24) (N:=some 91) #[Z,Z,Z,Z,Z,Z,Z,Z,Z,Z,Z,Z,Z,Z,Z,Z,Z,Z,Z,Z,Z,Z,Z,Z,Z,Y,Y] rfl rfl (one_of HT_.out (by kernel_rfl)) (by decide) (fun K hK=>?_);refine goes_ Tryz.func56 (by kernel_rfl) rfl #[.int .i64 (Int.tmod a0_1 64)] (by rfl) rfl rfl (by(try simp only[jq0,jq1,jq2]);first|done|rfl|(simp only[jq3,jq4];rfl)) ?_
               with_reducible refine(qvv.calls k (Int.tmod a0_1 64) t112 _ A59.out).mono ?_
               rintro e w69 ⟨rfl,hb⟩
               refine⟨_,rfl,?_⟩;replace BK101:=U.mk (jx (by solve_by_elim only[BK101.out,qk,qv,qj]) hb);replace HB:=U.mk (qx (by solve_by_elim (maxDepth:=20) only[HB.out,L,O,J,qz,GE101.out]) hb)
               (try clear hb)
               (try clear hb2)
               (try clear hk)
               (try clear hi)
               refine hK.out _ _ (by(repeat' apply And.intro) <;> first|exact(qq BK101.out _).trans rfl) (fun hHeld=>?_);clear hK K;refine norm_ (a':=?_) ?_ ?_;rotate_left
               ·show Act.put _ (some 91) _=_
                simp only[Act.put,jq5,jq6,jq7,i64_w,i32_w]
                rfl
               refine pure_ (i:=25) (N:=some 92) (v:=?_) (a':=?_) #[Z,Z,Z,Z,Z,Z,Z,Z,Z,Z,Z,Z,Z,Z,Z,Z,Z,Z,Z,Z,Z,Z,Z,Z,Z,Z,Y] rfl rfl (any_of HT_.out (by kernel_rfl)) (fun _ _ _ h=>h) (Or.inl ⟨by rfl,?_⟩) ?_ ?_;rotate_left
               ·intro w'
                go_simp
                with_reducible rfl
               rotate_left
               ·simp only[Act.put,jq5,jq6,jq7,i64_w,i32_w]
                rfl
               refine pure_ (i:=26) (N:=some 2) (v:=?_) (a':=?_) #[Z,Z,Z,Z,Z,Z,Z,Z,Z,Z,Z,Z,Z,Z,Z,Z,Z,Z,Z,Z,Z,Z,Z,Z,Z,Z,Z] rfl rfl (any_of HT_.out (by kernel_rfl)) (fun _ _ _ h=>h) (Or.inl ⟨by rfl,?_⟩) ?_ ?_;rotate_left
               ·intro w'
                go_simp
                with_reducible rfl
               rotate_left
               ·simp only[Act.put,jq5,jq6,jq7,i64_w,i32_w]
                rfl
               refine done_ (done_of HT_.out (by kernel_rfl)) ?_;try go_wp2
               go_ret
               exact⟨by first|rfl|(simp[*,zw,zv] <;> rfl),by solve_by_elim (maxDepth:=20) only[HB.out,L,O,J,qz,GE101.out]⟩
              ·rw[if_neg c60] at H;exact absurd H (by simp)
             ·rw[if_neg c58] at H;exact absurd H (by simp)
            ·rw[if_neg c57] at H;exact absurd H (by simp)
           ·rw[if_neg c55] at H;exact absurd H (by simp)
          ·rw[if_neg c54] at H;exact absurd H (by simp)
         ·rw[if_neg c52] at H;exact absurd H (by simp)
        ·rw[if_neg c51] at H;exact absurd H (by simp)
       ·rw[if_neg c49] at H;exact absurd H (by simp)
      ·rw[if_neg c46] at H;have c46b0:(a0_0 == 6)=false:=beq_eq_false_iff_ne.mpr c46;have c46b1:(a0_0 != 6)=true:=bne_iff_ne.mpr c46;replace H:=jq8.mp H;obtain⟨t113,A700,H⟩:=H;try dsimp only at H
       have A70:=U.mk A700;clear A700
       by_cases c71 : 1 + t113.size≤9223372036854775807
       ·rw[if_pos c71] at H;have c71b0:=eq_true c71;have c71b1:decide (1 + t113.size≤9223372036854775807)=true:=decide_eq_true c71;try have c71b2:(9223372036854775807 < 1 + t113.size)=False:=eq_false (Nat.not_lt.2 c71)
        obtain rfl:=Option.some.inj H;go_enter Tryz.func37,Tryz.ntmps37;go_wp2_with (first|((with_reducible refine gate_dst (N:=1) rfl ?_);refine box_event ?hg (N:=1) ?hd (cs:=#[.int .i64 a0_0,.int .i64 a0_1,.string a0_2,.string a0_3]) (t:=30) ?hr ?_;(case hd=>rfl);(case hg=>rfl);(case hr=>first|(go_simp;done)|(go_simp;rfl));intro gb101 hg w72 hbox hb;have BK101:=U.mk (hbox);have GW101:=U.mk ((by rw[hg];exact(zq (by solve_by_elim only[HB.out,L,O,J])):w.heap.size≤gb101));have GE101:=GW101;replace HB:=U.mk (qx (by solve_by_elim only[HB.out,L,O,J]) hb);clear hb hbox hg;obtain⟨y73_0,y73_1,y73_2,y73_3,z73_0,z73_1,z73_2,z73_3⟩:=bx4f BK101.out)|((with_reducible refine zx (f:=56) rfl ?_);refine goesL_ (some 95) rfl rfl Tryz.func56 (by kernel_rfl) rfl #[.int .i64 a0_1] rfl (by(try simp only[jq0,jq1,jq2]);first|done|rfl|(simp only[jq3,jq4];rfl)) ?_;(with_reducible refine(qvv.calls k a0_1 t113 _ A70.out).mono ?_);rintro e w74 ⟨rfl,hb⟩;refine⟨_,rfl,?_⟩;replace BK101:=U.mk (jx (by solve_by_elim only[BK101.out,qk,qv,qj]) hb);replace HB:=U.mk (qx (by solve_by_elim (maxDepth:=20) only[HB.out,L,O,J,qz,GE101.out]) hb);(try clear hb)))
        go_ret
        exact⟨by first|rfl|(simp[*,zw,zv] <;> rfl),by solve_by_elim (maxDepth:=20) only[HB.out,L,O,J,qz,GE101.out]⟩
       ·rw[if_neg c71] at H;exact absurd H (by simp)
end Go.Proofs.YtkcdefnpbnbaeaaGreatDoor.Pr
namespace Go.Proofs.YtkcdefnpbnbaeaaGreatDoor.Pr
open Go.RowKit Go.Proofs.YtkcdefnpbnbaeaaGreatDoorW.PrintWords Go.Proofs.YtkcdefnpbnbaeaaGreatDoorW.PrintLast Go.Proofs.YtkcdefnpbnbaeaaGreatDoorW.PrintMore
attribute [local go_sem] max2_int min2_int max_two min_two max_three min_three max_four min_four
set_option linter.unusedVariables false
set_option linter.unusedSimpArgs false
def qkv.l0:Nat→ByteArray→List (S30)→Int→Int→Int→Int→Int→ByteArray→ByteArray→List (S30)→List ByteArray→Option (ByteArray)
 | 0,_,_,_,_,_,_,_,_,_,_,_=>none
 | k + 1,x3,x16,x17,x18,x102000,x102001,x102002,x102003,x102004,x102005,x102006=>if x18 < x17 then(if 0≤x18 then(if x18 < (x16.length:Int) then(if x18 > 0 then(if x3.size + 1≤9223372036854775807 then(if x102000=3 then(if x18 < (x102006.length:Int) then(if (rdOf ByteArray.empty x102006 x18).size + 1≤9223372036854775807 then(if (x3 ++ (⟨#[44]⟩ : ByteArray)).size + ((rdOf ByteArray.empty x102006 x18) ++ (⟨#[58]⟩ : ByteArray)).size≤9223372036854775807 then((qwj.f k ((kw x16 x18).f0) ((kw x16 x18).f1) ((kw x16 x18).f2) ((kw x16 x18).f3)).bind fun t107=>(if ((x3 ++ (⟨#[44]⟩ : ByteArray)) ++ ((rdOf ByteArray.empty x102006 x18) ++ (⟨#[58]⟩ : ByteArray))).size + t107.size≤9223372036854775807 then(qkv.l0 k (((x3 ++ (⟨#[44]⟩ : ByteArray)) ++ ((rdOf ByteArray.empty x102006 x18) ++ (⟨#[58]⟩ : ByteArray))) ++ t107) x16 x17 (wrap64 (x18 + 1)) x102000 x102001 x102002 x102003 x102004 x102005 x102006) else(none))) else(none)) else(none)) else(none)) else(none)) else(none)) else(if x102000=3 then(if x18 < (x102006.length:Int) then(if (rdOf ByteArray.empty x102006 x18).size + 1≤9223372036854775807 then(if x3.size + ((rdOf ByteArray.empty x102006 x18) ++ (⟨#[58]⟩ : ByteArray)).size≤9223372036854775807 then((qwj.f k ((kw x16 x18).f0) ((kw x16 x18).f1) ((kw x16 x18).f2) ((kw x16 x18).f3)).bind fun t110=>(if (x3 ++ ((rdOf ByteArray.empty x102006 x18) ++ (⟨#[58]⟩ : ByteArray))).size + t110.size≤9223372036854775807 then(qkv.l0 k ((x3 ++ ((rdOf ByteArray.empty x102006 x18) ++ (⟨#[58]⟩ : ByteArray))) ++ t110) x16 x17 (wrap64 (x18 + 1)) x102000 x102001 x102002 x102003 x102004 x102005 x102006) else(none))) else(none)) else(none)) else(none)) else(none))) else(none)) else(none)) else(if x102000=3 then(if 1 + x3.size≤9223372036854775807 then(if ((⟨#[123]⟩ : ByteArray) ++ x3).size + 1≤9223372036854775807 then(some (((⟨#[123]⟩ : ByteArray) ++ x3) ++ (⟨#[125]⟩ : ByteArray))) else(none)) else(none)) else(none))
def qkv.f (k:Nat) (a0_0:Int) (a0_1:Int) (a0_2:Int) (a0_3:ByteArray) (a0_4:ByteArray) (l0_5:List (S30)) (l0_6:List ByteArray):Option (ByteArray):=(qkj.f k a0_0 a0_1 a0_2 a0_3 a0_4 l0_5 l0_6).bind fun t102=>(if t102=true then(if a0_0=1 then(none) else(qkv.l0 k (⟨#[]⟩ : ByteArray) l0_5 (l0_5.length:Int) 0 a0_0 a0_1 a0_2 a0_3 a0_4 l0_5 l0_6)) else(some (⟨#[]⟩ : ByteArray)))
theorem qkv.calls (k:Nat) (a0_0:Int) (a0_1:Int) (a0_2:Int) (a0_3:ByteArray) (a0_4:ByteArray) (A0_5:Option Addr) (c0_5:Nat) (l0_5:List (S30)) (A0_6:Option Addr) (c0_6:Nat) (l0_6:List ByteArray) (r:ByteArray) (w:World) (hr0_5:Kd.C k30 w A0_5 l0_5.length l0_5) (hc0_5:l0_5.length≤c0_5) (hr0_6:Kd.C Kd.string w A0_6 l0_6.length l0_6) (hc0_6:l0_6.length≤c0_6) (h:qkv.f k a0_0 a0_1 a0_2 a0_3 a0_4 l0_5 l0_6=some r) :
  Calls Tryz.prog 16 #[.agg #[.int .i64 a0_0,.int .i64 a0_1,.int .i64 a0_2,.string a0_3,.string a0_4,.slice A0_5 l0_5.length c0_5,.slice A0_6 l0_6.length c0_6]] w fun e w'=>e=.returned (.string r)∧Below w.heap.size w w':=by
 have hu33:=Tryz.underlying33;have hu30:=Tryz.underlying30;have HR0_5:=U.mk hr0_5;have HC0_5:=U.mk hc0_5;clear hr0_5 hc0_5;have HR0_6:=U.mk hr0_6;have HC0_6:=U.mk hc0_6;clear hr0_6 hc0_6;have HB:=U.mk (Below.refl w.heap.size w);unfold qkv.f at h;have H:=h;clear h;replace H:=jq8.mp H;obtain⟨t102,A20,H⟩:=H;try dsimp only at H
 have A2:=U.mk A20;clear A20
 by_cases c3:t102=true
 ·subst c3;have H1:(if a0_0=1 then(none) else(qkv.l0 k (⟨#[]⟩ : ByteArray) l0_5 (l0_5.length:Int) 0 a0_0 a0_1 a0_2 a0_3 a0_4 l0_5 l0_6))=some r:=by rw[if_pos rfl] at H;exact H
  clear H;have H:=H1;clear H1
  by_cases c4:a0_0=1
  ·rw[if_pos c4] at H;exact absurd H (by simp)
  ·rw[if_neg c4] at H;have c4b0:(a0_0 == 1)=false:=beq_eq_false_iff_ne.mpr c4;have c4b1:(a0_0 != 1)=true:=bne_iff_ne.mpr c4;have H':=U.mk H;clear H;go_enter Tryz.func16,Tryz.ntmps16;go_wp2_with (first|((with_reducible refine gate_dst (N:=1) rfl ?_);refine box_event ?hg (N:=1) ?hd (cs:=#[.int .i64 a0_0,.int .i64 a0_1,.int .i64 a0_2,.string a0_3,.string a0_4,.slice A0_5 l0_5.length c0_5,.slice A0_6 l0_6.length c0_6]) (t:=33) ?hr ?_;(case hd=>rfl);(case hg=>rfl);(case hr=>first|(go_simp;done)|(go_simp;rfl));intro gb101 hg w11 hbox hb;have BK101:=U.mk (hbox);have GW101:=U.mk ((by rw[hg];exact(zq (by solve_by_elim only[HB.out,L,O,J])):w.heap.size≤gb101));have GE101:=GW101;replace HB:=U.mk (qx (by solve_by_elim only[HB.out,L,O,J]) hb);clear hb hbox hg;obtain⟨y12_0,y12_1,y12_2,y12_3,y12_4,y12_5,y12_6,z12_0,z12_1,z12_2,z12_3,z12_4,z12_5,z12_6⟩:=bx7f BK101.out)|((with_reducible refine zx (f:=36) rfl ?_);refine goesL_ (some 7) rfl rfl Tryz.func36 (by kernel_rfl) rfl #[.agg #[.int .i64 a0_0,.int .i64 a0_1,.int .i64 a0_2,.string a0_3,.string a0_4,.slice A0_5 l0_5.length c0_5,.slice A0_6 l0_6.length c0_6]] rfl (by(try simp only[jq0,jq1,jq2]);first|done|rfl|(simp only[jq3,jq4];rfl)) ?_;(with_reducible refine(qkj.calls k a0_0 a0_1 a0_2 a0_3 a0_4 _ _ l0_5 _ _ l0_6 true _ ?side1 ?side2 ?side3 ?side4 A2.out).mono ?_);(case side1=>solve_by_elim only[(Kd.C_below HR0_5.out HB.out),Kd.C_alloc,Kd.C_drewN,Kd.C_drew]);(case side2=>exact HC0_5.out);(case side3=>solve_by_elim only[(Kd.C_below HR0_6.out HB.out),Kd.C_alloc,Kd.C_drewN,Kd.C_drew]);(case side4=>exact HC0_6.out);rintro e w13 ⟨rfl,hb⟩;refine⟨_,rfl,?_⟩;replace BK101:=U.mk (jx (by solve_by_elim only[BK101.out,qk,qv,qj]) hb);replace HB:=U.mk (qx (by solve_by_elim (maxDepth:=20) only[HB.out,L,O,J,qz,GE101.out]) hb);(try clear hb);obtain⟨y14_0,y14_1,y14_2,y14_3,y14_4,y14_5,y14_6,z14_0,z14_1,z14_2,z14_3,z14_4,z14_5,z14_6⟩:=bx7f BK101.out))
   go_loopg [3,18] k (fun kq v3 v18 w'=>∃ (x3_1:ByteArray) (x18_1:Int),v3=.string x3_1∧v18=.int .i64 x18_1∧U (qkv.l0 kq x3_1 l0_5 (l0_5.length:Int) x18_1 a0_0 a0_1 a0_2 a0_3 a0_4 l0_5 l0_6=some r)∧U (kq≤k)∧U (w'.heap[gb101]? = some (.cells #[.int .i64 a0_0,.int .i64 a0_1,.int .i64 a0_2,.string a0_3,.string a0_4,(.slice A0_5 l0_5.length c0_5),(.slice A0_6 l0_6.length c0_6)] 33 (0,0)))∧U (Below w.heap.size w w'))
   case atStart=>exact⟨((⟨#[]⟩ : ByteArray)),(0),(by first|rfl|(simp;done)|(simp[*];done)),(by first|rfl|(simp;done)|(simp[*];done)),H',⟨Nat.le_refl _⟩,⟨by(with_reducible repeat(first|refine qk ?_ _|refine qv ?_|refine qj ?_ _));exact BK101.out⟩,⟨by solve_by_elim (maxDepth:=20) only[HB.out,L,O,J,qz,GE101.out]⟩⟩
   case round =>
    clear H';try clear c1
    try clear p2
    try clear c3
    try clear c4
    try clear c4b0
    try clear c4b1
    try clear y12_0 y12_1 y12_2 y12_3 y12_4 y12_5 y12_6 z12_0 z12_1 z12_2 z12_3 z12_4 z12_5 z12_6
    try clear y14_0 y14_1 y14_2 y14_3 y14_4 y14_5 y14_6 z14_0 z14_1 z14_2 z14_3 z14_4 z14_5 z14_6
    try clear y7_0 y7_1 y7_2 y7_3 y7_4 y7_5 y7_6 z7_0 z7_1 z7_2 z7_3 z7_4 z7_5 z7_6
    try clear y9_0 y9_1 y9_2 y9_3 y9_4 y9_5 y9_6 z9_0 z9_1 z9_2 z9_3 z9_4 z9_5 z9_6
    obtain⟨x3_1,x18_1,rfl,rfl,HA,HK1,BK101,HB⟩:=hrel
    cases gk with
    | zero=>exact absurd HA.out (by simp[qkv.l0])
    | succ k1 =>
     have H:=HA.out;clear HA;simp only[qkv.l0] at H
     by_cases c15:x18_1 < (l0_5.length:Int)
     ·rw[if_pos c15] at H;have c15b0:decide (x18_1 < (l0_5.length:Int))=true:=decide_eq_true c15;clear c15
      by_cases c16 : 0≤x18_1
      ·rw[if_pos c16] at H;have c16b0:decide (0≤x18_1)=true:=decide_eq_true c16;clear c16
       by_cases c17:x18_1 < (l0_5.length:Int)
       ·rw[if_pos c17] at H;have c17b0:decide (x18_1 < (l0_5.length:Int))=true:=decide_eq_true c17;clear c17
        by_cases c18:x18_1 > 0
        ·rw[if_pos c18] at H;have c18b0:decide (0 < x18_1)=true:=decide_eq_true c18;clear c18
         by_cases c19:x3_1.size + 1≤9223372036854775807
         ·rw[if_pos c19] at H;have c19b0:=eq_true c19;have c19b1:decide (x3_1.size + 1≤9223372036854775807)=true:=decide_eq_true c19;try have c19b2:(9223372036854775807 < x3_1.size + 1)=False:=eq_false (Nat.not_lt.2 c19)
          by_cases c20:a0_0=3
          ·rw[if_pos c20] at H;have c20b0:(a0_0 == 3)=true:=beq_iff_eq.mpr c20;have c20b1:(a0_0 != 3)=false:=bne_eq_false_iff_eq.mpr c20;clear c20
           by_cases c21:x18_1 < (l0_6.length:Int)
           ·rw[if_pos c21] at H;have c21b0:decide (x18_1 < (l0_6.length:Int))=true:=decide_eq_true c21;clear c21
            by_cases c22:(rdOf ByteArray.empty l0_6 x18_1).size + 1≤9223372036854775807
            ·rw[if_pos c22] at H;have c22b0:=eq_true c22;have c22b1:decide ((rdOf ByteArray.empty l0_6 x18_1).size + 1≤9223372036854775807)=true:=decide_eq_true c22;try have c22b2:(9223372036854775807 < (rdOf ByteArray.empty l0_6 x18_1).size + 1)=False:=eq_false (Nat.not_lt.2 c22)
             by_cases c23:(x3_1 ++ (⟨#[44]⟩ : ByteArray)).size + ((rdOf ByteArray.empty l0_6 x18_1) ++ (⟨#[58]⟩ : ByteArray)).size≤9223372036854775807
             ·rw[if_pos c23] at H;have c23b0:=eq_true c23;have c23b1:decide ((x3_1 ++ (⟨#[44]⟩ : ByteArray)).size + ((rdOf ByteArray.empty l0_6 x18_1) ++ (⟨#[58]⟩ : ByteArray)).size≤9223372036854775807)=true:=decide_eq_true c23;try have c23b2:(9223372036854775807 < (x3_1 ++ (⟨#[44]⟩ : ByteArray)).size + ((rdOf ByteArray.empty l0_6 x18_1) ++ (⟨#[58]⟩ : ByteArray)).size)=False:=eq_false (Nat.not_lt.2 c23)
              try (have c23b9:=c23b2;simp only[ByteArray.size_append,show(⟨#[44]⟩ : ByteArray).size=1 from rfl,show(⟨#[58]⟩ : ByteArray).size=1 from rfl] at c23b9)
              replace H:=jq8.mp H;obtain⟨t107,A240,H⟩:=H;try dsimp only at H
              have A24:=U.mk A240;clear A240
              by_cases c25:((x3_1 ++ (⟨#[44]⟩ : ByteArray)) ++ ((rdOf ByteArray.empty l0_6 x18_1) ++ (⟨#[58]⟩ : ByteArray))).size + t107.size≤9223372036854775807
              ·rw[if_pos c25] at H;have c25b0:=eq_true c25;have c25b1:decide (((x3_1 ++ (⟨#[44]⟩ : ByteArray)) ++ ((rdOf ByteArray.empty l0_6 x18_1) ++ (⟨#[58]⟩ : ByteArray))).size + t107.size≤9223372036854775807)=true:=decide_eq_true c25;try have c25b2:(9223372036854775807 < ((x3_1 ++ (⟨#[44]⟩ : ByteArray)) ++ ((rdOf ByteArray.empty l0_6 x18_1) ++ (⟨#[58]⟩ : ByteArray))).size + t107.size)=False:=eq_false (Nat.not_lt.2 c25)
               try (have c25b9:=c25b2;simp only[ByteArray.size_append,show(⟨#[44]⟩ : ByteArray).size=1 from rfl,show(⟨#[58]⟩ : ByteArray).size=1 from rfl] at c25b9)
               have H':=U.mk H;clear H;have p104 : 0≤(x18_1:Int):=of_decide_eq_true (by assumption);have q104:x18_1 < (l0_5.length:Int):=of_decide_eq_true (by assumption);obtain⟨ad104,e104,hx104_0,hx104_1,hx104_2,hx104_3⟩:=at_T30 HR0_5.out x18_1 p104 q104
               cases e104
               replace hx104_0:=(HB.out.cell (World.block_lt_of_cell? w _ hx104_0)).trans hx104_0;replace hx104_1:=(HB.out.cell (World.block_lt_of_cell? w _ hx104_1)).trans hx104_1;replace hx104_2:=(HB.out.cell (World.block_lt_of_cell? w _ hx104_2)).trans hx104_2;replace hx104_3:=(HB.out.cell (World.block_lt_of_cell? w _ hx104_3)).trans hx104_3;replace p104:=eq_true p104;replace q104:=eq_true q104;go_wp2_with (first|((with_reducible refine gate_dst (N:=5) rfl ?_);refine box_event ?hg (N:=5) ?hd (cs:=#[.int .i64 0,.int .i64 0,.string (⟨#[]⟩ : ByteArray),.string (⟨#[]⟩ : ByteArray)]) (t:=30) ?hr ?_;(case hd=>rfl);(case hg=>rfl);(case hr=>first|(go_simp;done)|(go_simp;rfl));intro gb105 hg w26 hbox hb;have BK105:=U.mk (hbox);have GW105:=U.mk ((by rw[hg];exact(zq (by solve_by_elim (maxDepth:=20) only[HB.out,L,O,J,qz,GE101.out])):w.heap.size≤gb105));have GE105:=GW105;replace HB:=U.mk (qx (by solve_by_elim (maxDepth:=20) only[HB.out,L,O,J,qz,GE101.out]) hb);have NB101_105:=U.mk ((by rw[hg];exact Nat.ne_of_lt (blk_lt (by solve_by_elim only[BK101.out,qk,qv,qj])):gb101≠gb105));have NB105_101:=U.mk ((by rw[hg];exact Nat.ne_of_gt (blk_lt (by solve_by_elim only[BK101.out,qk,qv,qj])):gb105≠gb101));replace BK101:=U.mk (jx (by solve_by_elim only[BK101.out,qk,qv,qj]) hb);clear hb hbox hg;have hnb27:=NB105_101.out;have hnc27:=NB101_105.out;obtain⟨y28_0,y28_1,y28_2,y28_3,z28_0,z28_1,z28_2,z28_3⟩:=bx4f BK105.out;obtain⟨y29_0,y29_1,y29_2,y29_3,y29_4,y29_5,y29_6,z29_0,z29_1,z29_2,z29_3,z29_4,z29_5,z29_6⟩:=bx7f BK101.out;have p106 : 0≤(x18_1:Int):=of_decide_eq_true (by assumption);have q106:x18_1 < (l0_6.length:Int):=of_decide_eq_true (by assumption);obtain⟨ad106,e106,hx106_0⟩:=Kd.at_string HR0_6.out x18_1 p106 q106;cases e106;have hn106_0:ad106.block≠gb105:=Nat.ne_of_lt (Nat.lt_of_lt_of_le (by have:=World.block_lt_of_cell? _ _ hx106_0;first|rwa [add_block] at this|exact this) GW105.out);have hn106_1:ad106.block≠gb105:=Nat.ne_of_lt (Nat.lt_of_lt_of_le (by have:=World.block_lt_of_cell? _ _ hx106_0;first|rwa [add_block] at this|exact this) GW105.out);have hn106_2:ad106.block≠gb105:=Nat.ne_of_lt (Nat.lt_of_lt_of_le (by have:=World.block_lt_of_cell? _ _ hx106_0;first|rwa [add_block] at this|exact this) GW105.out);have hn106_3:ad106.block≠gb105:=Nat.ne_of_lt (Nat.lt_of_lt_of_le (by have:=World.block_lt_of_cell? _ _ hx106_0;first|rwa [add_block] at this|exact this) GW105.out);replace hx106_0:=(HB.out.cell (World.block_lt_of_cell? w _ hx106_0)).trans hx106_0;replace hx106_0:=(cell_far (p:=⟨gb105,0,none⟩) (by first|(rw[add_block];exact hn106_0)|(show(Addr.add _ _).block≠_;rw[add_block];exact hn106_0)|exact hn106_0) (.int .i64 ((kw l0_5 x18_1).f0))).trans hx106_0;replace hx106_0:=(cell_far (p:=⟨gb105,1,none⟩) (by first|(rw[add_block];exact hn106_1)|(show(Addr.add _ _).block≠_;rw[add_block];exact hn106_1)|exact hn106_1) (.int .i64 ((kw l0_5 x18_1).f1))).trans hx106_0;replace hx106_0:=(cell_far (p:=⟨gb105,2,none⟩) (by first|(rw[add_block];exact hn106_2)|(show(Addr.add _ _).block≠_;rw[add_block];exact hn106_2)|exact hn106_2) (.string ((kw l0_5 x18_1).f2))).trans hx106_0;replace hx106_0:=(cell_far (p:=⟨gb105,3,none⟩) (by first|(rw[add_block];exact hn106_3)|(show(Addr.add _ _).block≠_;rw[add_block];exact hn106_3)|exact hn106_3) (.string ((kw l0_5 x18_1).f3))).trans hx106_0;clear hn106_0;clear hn106_1;clear hn106_2;clear hn106_3;replace p106:=eq_true p106;replace q106:=eq_true q106)|((with_reducible refine zx (f:=37) rfl ?_);refine goesL_ (some 40) rfl rfl Tryz.func37 (by kernel_rfl) rfl #[.agg #[.int .i64 ((kw l0_5 x18_1).f0),.int .i64 ((kw l0_5 x18_1).f1),.string ((kw l0_5 x18_1).f2),.string ((kw l0_5 x18_1).f3)]] rfl (by(try simp only[jq0,jq1,jq2]);first|done|rfl|(simp only[jq3,jq4];rfl)) ?_;(with_reducible refine(qwj.calls k1 ((kw l0_5 x18_1).f0) ((kw l0_5 x18_1).f1) ((kw l0_5 x18_1).f2) ((kw l0_5 x18_1).f3) t107 _ A24.out).mono ?_);rintro e w30 ⟨rfl,hb⟩;refine⟨_,rfl,?_⟩;replace BK101:=U.mk (jx (g:=gb101) (o:=.cells #[.int .i64 a0_0,.int .i64 a0_1,.int .i64 a0_2,.string a0_3,.string a0_4,.slice (some ad104) l0_5.length c0_5,.slice (some ad106) l0_6.length c0_6] 33 (0,0)) (by(with_reducible repeat(first|refine qk ?_ _|refine qv ?_|refine qj ?_ _));refine blk_far ?_ NB101_105.out _;(with_reducible repeat(first|refine qk ?_ _|refine qv ?_|refine qj ?_ _));refine blk_far ?_ NB101_105.out _;(with_reducible repeat(first|refine qk ?_ _|refine qv ?_|refine qj ?_ _));refine blk_far ?_ NB101_105.out _;(with_reducible repeat(first|refine qk ?_ _|refine qv ?_|refine qj ?_ _));refine blk_far ?_ NB101_105.out _;(with_reducible repeat(first|refine qk ?_ _|refine qv ?_|refine qj ?_ _));exact BK101.out) hb);replace BK105:=U.mk (jx (g:=gb105) (o:=.cells #[.int .i64 ((kw l0_5 x18_1).f0),.int .i64 ((kw l0_5 x18_1).f1),.string ((kw l0_5 x18_1).f2),.string ((kw l0_5 x18_1).f3)] 30 (0,0)) (by(with_reducible repeat(first|refine qk ?_ _|refine qv ?_|refine qj ?_ _));refine blk_put (cs:=#[.int .i64 ((kw l0_5 x18_1).f0),.int .i64 ((kw l0_5 x18_1).f1),.string ((kw l0_5 x18_1).f2),.string (⟨#[]⟩ : ByteArray)]) ?_ 3 _ rfl;(with_reducible repeat(first|refine qk ?_ _|refine qv ?_|refine qj ?_ _));refine blk_put (cs:=#[.int .i64 ((kw l0_5 x18_1).f0),.int .i64 ((kw l0_5 x18_1).f1),.string (⟨#[]⟩ : ByteArray),.string (⟨#[]⟩ : ByteArray)]) ?_ 2 _ rfl;(with_reducible repeat(first|refine qk ?_ _|refine qv ?_|refine qj ?_ _));refine blk_put (cs:=#[.int .i64 ((kw l0_5 x18_1).f0),.int .i64 0,.string (⟨#[]⟩ : ByteArray),.string (⟨#[]⟩ : ByteArray)]) ?_ 1 _ rfl;(with_reducible repeat(first|refine qk ?_ _|refine qv ?_|refine qj ?_ _));refine blk_put (cs:=#[.int .i64 0,.int .i64 0,.string (⟨#[]⟩ : ByteArray),.string (⟨#[]⟩ : ByteArray)]) ?_ 0 _ rfl;(with_reducible repeat(first|refine qk ?_ _|refine qv ?_|refine qj ?_ _));exact BK105.out) hb);replace HB:=U.mk (qx (by repeat(first|(with_reducible first|exact HB.out|apply L|apply O|apply J|refine qz ?_ GE101.out|refine qz ?_ GE105.out)|exact HB.out)) hb);(try clear hb)))
               go_roundg k1
               case measure=>have:=HK1.out;omega
               case rel=>exact⟨(((x3_1 ++ (⟨#[44]⟩ : ByteArray)) ++ ((rdOf ByteArray.empty l0_6 x18_1) ++ (⟨#[58]⟩ : ByteArray))) ++ t107),(wrap64 (x18_1 + 1)),(by first|rfl|(simp;done)|(simp[*];done)),(by first|rfl|(simp;done)|(simp[*];done)),H',⟨by have:=HK1.out;omega⟩,⟨by(with_reducible repeat(first|refine qk ?_ _|refine qv ?_|refine qj ?_ _));exact BK101.out⟩,⟨by repeat(first|(with_reducible first|exact HB.out|apply L|apply O|apply J|refine qz ?_ GE101.out|refine qz ?_ GE105.out)|exact HB.out)⟩⟩
              ·rw[if_neg c25] at H;exact absurd H (by simp)
             ·rw[if_neg c23] at H;exact absurd H (by simp)
            ·rw[if_neg c22] at H;exact absurd H (by simp)
           ·rw[if_neg c21] at H;exact absurd H (by simp)
          ·rw[if_neg c20] at H;exact absurd H (by simp)
         ·rw[if_neg c19] at H;exact absurd H (by simp)
        ·rw[if_neg c18] at H;have c18b0:decide (0 < x18_1)=false:=decide_eq_false c18;clear c18
         by_cases c38:a0_0=3
         ·rw[if_pos c38] at H;have c38b0:(a0_0 == 3)=true:=beq_iff_eq.mpr c38;have c38b1:(a0_0 != 3)=false:=bne_eq_false_iff_eq.mpr c38;clear c38
          by_cases c39:x18_1 < (l0_6.length:Int)
          ·rw[if_pos c39] at H;have c39b0:decide (x18_1 < (l0_6.length:Int))=true:=decide_eq_true c39;clear c39
           by_cases c40:(rdOf ByteArray.empty l0_6 x18_1).size + 1≤9223372036854775807
           ·rw[if_pos c40] at H;have c40b0:=eq_true c40;have c40b1:decide ((rdOf ByteArray.empty l0_6 x18_1).size + 1≤9223372036854775807)=true:=decide_eq_true c40;try have c40b2:(9223372036854775807 < (rdOf ByteArray.empty l0_6 x18_1).size + 1)=False:=eq_false (Nat.not_lt.2 c40)
            by_cases c41:x3_1.size + ((rdOf ByteArray.empty l0_6 x18_1) ++ (⟨#[58]⟩ : ByteArray)).size≤9223372036854775807
            ·rw[if_pos c41] at H;have c41b0:=eq_true c41;have c41b1:decide (x3_1.size + ((rdOf ByteArray.empty l0_6 x18_1) ++ (⟨#[58]⟩ : ByteArray)).size≤9223372036854775807)=true:=decide_eq_true c41;try have c41b2:(9223372036854775807 < x3_1.size + ((rdOf ByteArray.empty l0_6 x18_1) ++ (⟨#[58]⟩ : ByteArray)).size)=False:=eq_false (Nat.not_lt.2 c41)
             try (have c41b9:=c41b2;simp only[ByteArray.size_append,show(⟨#[58]⟩ : ByteArray).size=1 from rfl] at c41b9)
             replace H:=jq8.mp H;obtain⟨t110,A420,H⟩:=H;try dsimp only at H
             have A42:=U.mk A420;clear A420
             by_cases c43:(x3_1 ++ ((rdOf ByteArray.empty l0_6 x18_1) ++ (⟨#[58]⟩ : ByteArray))).size + t110.size≤9223372036854775807
             ·rw[if_pos c43] at H;have c43b0:=eq_true c43;have c43b1:decide ((x3_1 ++ ((rdOf ByteArray.empty l0_6 x18_1) ++ (⟨#[58]⟩ : ByteArray))).size + t110.size≤9223372036854775807)=true:=decide_eq_true c43;try have c43b2:(9223372036854775807 < (x3_1 ++ ((rdOf ByteArray.empty l0_6 x18_1) ++ (⟨#[58]⟩ : ByteArray))).size + t110.size)=False:=eq_false (Nat.not_lt.2 c43)
              try (have c43b9:=c43b2;simp only[ByteArray.size_append,show(⟨#[58]⟩ : ByteArray).size=1 from rfl] at c43b9)
              have H':=U.mk H;clear H;have p104 : 0≤(x18_1:Int):=of_decide_eq_true (by assumption);have q104:x18_1 < (l0_5.length:Int):=of_decide_eq_true (by assumption);obtain⟨ad104,e104,hx104_0,hx104_1,hx104_2,hx104_3⟩:=at_T30 HR0_5.out x18_1 p104 q104
              cases e104
              replace hx104_0:=(HB.out.cell (World.block_lt_of_cell? w _ hx104_0)).trans hx104_0;replace hx104_1:=(HB.out.cell (World.block_lt_of_cell? w _ hx104_1)).trans hx104_1;replace hx104_2:=(HB.out.cell (World.block_lt_of_cell? w _ hx104_2)).trans hx104_2;replace hx104_3:=(HB.out.cell (World.block_lt_of_cell? w _ hx104_3)).trans hx104_3;replace p104:=eq_true p104;replace q104:=eq_true q104;go_wp2_with (first|((with_reducible refine gate_dst (N:=5) rfl ?_);refine box_event ?hg (N:=5) ?hd (cs:=#[.int .i64 0,.int .i64 0,.string (⟨#[]⟩ : ByteArray),.string (⟨#[]⟩ : ByteArray)]) (t:=30) ?hr ?_;(case hd=>rfl);(case hg=>rfl);(case hr=>first|(go_simp;done)|(go_simp;rfl));intro gb105 hg w44 hbox hb;have BK105:=U.mk (hbox);have GW105:=U.mk ((by rw[hg];exact(zq (by solve_by_elim (maxDepth:=20) only[HB.out,L,O,J,qz,GE101.out])):w.heap.size≤gb105));have GE105:=GW105;replace HB:=U.mk (qx (by solve_by_elim (maxDepth:=20) only[HB.out,L,O,J,qz,GE101.out]) hb);have NB101_105:=U.mk ((by rw[hg];exact Nat.ne_of_lt (blk_lt (by solve_by_elim only[BK101.out,qk,qv,qj])):gb101≠gb105));have NB105_101:=U.mk ((by rw[hg];exact Nat.ne_of_gt (blk_lt (by solve_by_elim only[BK101.out,qk,qv,qj])):gb105≠gb101));replace BK101:=U.mk (jx (by solve_by_elim only[BK101.out,qk,qv,qj]) hb);clear hb hbox hg;have hnb45:=NB105_101.out;have hnc45:=NB101_105.out;obtain⟨y46_0,y46_1,y46_2,y46_3,z46_0,z46_1,z46_2,z46_3⟩:=bx4f BK105.out;obtain⟨y47_0,y47_1,y47_2,y47_3,y47_4,y47_5,y47_6,z47_0,z47_1,z47_2,z47_3,z47_4,z47_5,z47_6⟩:=bx7f BK101.out;have p109 : 0≤(x18_1:Int):=of_decide_eq_true (by assumption);have q109:x18_1 < (l0_6.length:Int):=of_decide_eq_true (by assumption);obtain⟨ad109,e109,hx109_0⟩:=Kd.at_string HR0_6.out x18_1 p109 q109;cases e109;have hn109_0:ad109.block≠gb105:=Nat.ne_of_lt (Nat.lt_of_lt_of_le (by have:=World.block_lt_of_cell? _ _ hx109_0;first|rwa [add_block] at this|exact this) GW105.out);have hn109_1:ad109.block≠gb105:=Nat.ne_of_lt (Nat.lt_of_lt_of_le (by have:=World.block_lt_of_cell? _ _ hx109_0;first|rwa [add_block] at this|exact this) GW105.out);have hn109_2:ad109.block≠gb105:=Nat.ne_of_lt (Nat.lt_of_lt_of_le (by have:=World.block_lt_of_cell? _ _ hx109_0;first|rwa [add_block] at this|exact this) GW105.out);have hn109_3:ad109.block≠gb105:=Nat.ne_of_lt (Nat.lt_of_lt_of_le (by have:=World.block_lt_of_cell? _ _ hx109_0;first|rwa [add_block] at this|exact this) GW105.out);replace hx109_0:=(HB.out.cell (World.block_lt_of_cell? w _ hx109_0)).trans hx109_0;replace hx109_0:=(cell_far (p:=⟨gb105,0,none⟩) (by first|(rw[add_block];exact hn109_0)|(show(Addr.add _ _).block≠_;rw[add_block];exact hn109_0)|exact hn109_0) (.int .i64 ((kw l0_5 x18_1).f0))).trans hx109_0;replace hx109_0:=(cell_far (p:=⟨gb105,1,none⟩) (by first|(rw[add_block];exact hn109_1)|(show(Addr.add _ _).block≠_;rw[add_block];exact hn109_1)|exact hn109_1) (.int .i64 ((kw l0_5 x18_1).f1))).trans hx109_0;replace hx109_0:=(cell_far (p:=⟨gb105,2,none⟩) (by first|(rw[add_block];exact hn109_2)|(show(Addr.add _ _).block≠_;rw[add_block];exact hn109_2)|exact hn109_2) (.string ((kw l0_5 x18_1).f2))).trans hx109_0;replace hx109_0:=(cell_far (p:=⟨gb105,3,none⟩) (by first|(rw[add_block];exact hn109_3)|(show(Addr.add _ _).block≠_;rw[add_block];exact hn109_3)|exact hn109_3) (.string ((kw l0_5 x18_1).f3))).trans hx109_0;clear hn109_0;clear hn109_1;clear hn109_2;clear hn109_3;replace p109:=eq_true p109;replace q109:=eq_true q109)|((with_reducible refine zx (f:=37) rfl ?_);refine goesL_ (some 40) rfl rfl Tryz.func37 (by kernel_rfl) rfl #[.agg #[.int .i64 ((kw l0_5 x18_1).f0),.int .i64 ((kw l0_5 x18_1).f1),.string ((kw l0_5 x18_1).f2),.string ((kw l0_5 x18_1).f3)]] rfl (by(try simp only[jq0,jq1,jq2]);first|done|rfl|(simp only[jq3,jq4];rfl)) ?_;(with_reducible refine(qwj.calls k1 ((kw l0_5 x18_1).f0) ((kw l0_5 x18_1).f1) ((kw l0_5 x18_1).f2) ((kw l0_5 x18_1).f3) t110 _ A42.out).mono ?_);rintro e w48 ⟨rfl,hb⟩;refine⟨_,rfl,?_⟩;replace BK101:=U.mk (jx (g:=gb101) (o:=.cells #[.int .i64 a0_0,.int .i64 a0_1,.int .i64 a0_2,.string a0_3,.string a0_4,.slice (some ad104) l0_5.length c0_5,.slice (some ad109) l0_6.length c0_6] 33 (0,0)) (by(with_reducible repeat(first|refine qk ?_ _|refine qv ?_|refine qj ?_ _));refine blk_far ?_ NB101_105.out _;(with_reducible repeat(first|refine qk ?_ _|refine qv ?_|refine qj ?_ _));refine blk_far ?_ NB101_105.out _;(with_reducible repeat(first|refine qk ?_ _|refine qv ?_|refine qj ?_ _));refine blk_far ?_ NB101_105.out _;(with_reducible repeat(first|refine qk ?_ _|refine qv ?_|refine qj ?_ _));refine blk_far ?_ NB101_105.out _;(with_reducible repeat(first|refine qk ?_ _|refine qv ?_|refine qj ?_ _));exact BK101.out) hb);replace BK105:=U.mk (jx (g:=gb105) (o:=.cells #[.int .i64 ((kw l0_5 x18_1).f0),.int .i64 ((kw l0_5 x18_1).f1),.string ((kw l0_5 x18_1).f2),.string ((kw l0_5 x18_1).f3)] 30 (0,0)) (by(with_reducible repeat(first|refine qk ?_ _|refine qv ?_|refine qj ?_ _));refine blk_put (cs:=#[.int .i64 ((kw l0_5 x18_1).f0),.int .i64 ((kw l0_5 x18_1).f1),.string ((kw l0_5 x18_1).f2),.string (⟨#[]⟩ : ByteArray)]) ?_ 3 _ rfl;(with_reducible repeat(first|refine qk ?_ _|refine qv ?_|refine qj ?_ _));refine blk_put (cs:=#[.int .i64 ((kw l0_5 x18_1).f0),.int .i64 ((kw l0_5 x18_1).f1),.string (⟨#[]⟩ : ByteArray),.string (⟨#[]⟩ : ByteArray)]) ?_ 2 _ rfl;(with_reducible repeat(first|refine qk ?_ _|refine qv ?_|refine qj ?_ _));refine blk_put (cs:=#[.int .i64 ((kw l0_5 x18_1).f0),.int .i64 0,.string (⟨#[]⟩ : ByteArray),.string (⟨#[]⟩ : ByteArray)]) ?_ 1 _ rfl;(with_reducible repeat(first|refine qk ?_ _|refine qv ?_|refine qj ?_ _));refine blk_put (cs:=#[.int .i64 0,.int .i64 0,.string (⟨#[]⟩ : ByteArray),.string (⟨#[]⟩ : ByteArray)]) ?_ 0 _ rfl;(with_reducible repeat(first|refine qk ?_ _|refine qv ?_|refine qj ?_ _));exact BK105.out) hb);replace HB:=U.mk (qx (by repeat(first|(with_reducible first|exact HB.out|apply L|apply O|apply J|refine qz ?_ GE101.out|refine qz ?_ GE105.out)|exact HB.out)) hb);(try clear hb)))
              go_roundg k1
              case measure=>have:=HK1.out;omega
              case rel=>exact⟨((x3_1 ++ ((rdOf ByteArray.empty l0_6 x18_1) ++ (⟨#[58]⟩ : ByteArray))) ++ t110),(wrap64 (x18_1 + 1)),(by first|rfl|(simp;done)|(simp[*];done)),(by first|rfl|(simp;done)|(simp[*];done)),H',⟨by have:=HK1.out;omega⟩,⟨by(with_reducible repeat(first|refine qk ?_ _|refine qv ?_|refine qj ?_ _));exact BK101.out⟩,⟨by repeat(first|(with_reducible first|exact HB.out|apply L|apply O|apply J|refine qz ?_ GE101.out|refine qz ?_ GE105.out)|exact HB.out)⟩⟩
             ·rw[if_neg c43] at H;exact absurd H (by simp)
            ·rw[if_neg c41] at H;exact absurd H (by simp)
           ·rw[if_neg c40] at H;exact absurd H (by simp)
          ·rw[if_neg c39] at H;exact absurd H (by simp)
         ·rw[if_neg c38] at H;exact absurd H (by simp)
       ·rw[if_neg c17] at H;exact absurd H (by simp)
      ·rw[if_neg c16] at H;exact absurd H (by simp)
     ·rw[if_neg c15] at H;have c15b0:decide (x18_1 < (l0_5.length:Int))=false:=decide_eq_false c15;clear c15
      by_cases c56:a0_0=3
      ·rw[if_pos c56] at H;have c56b0:(a0_0 == 3)=true:=beq_iff_eq.mpr c56;have c56b1:(a0_0 != 3)=false:=bne_eq_false_iff_eq.mpr c56;clear c56
       by_cases c57 : 1 + x3_1.size≤9223372036854775807
       ·rw[if_pos c57] at H;have c57b0:=eq_true c57;have c57b1:decide (1 + x3_1.size≤9223372036854775807)=true:=decide_eq_true c57;try have c57b2:(9223372036854775807 < 1 + x3_1.size)=False:=eq_false (Nat.not_lt.2 c57)
        by_cases c58:((⟨#[123]⟩ : ByteArray) ++ x3_1).size + 1≤9223372036854775807
        ·rw[if_pos c58] at H;have c58b0:=eq_true c58;have c58b1:decide (((⟨#[123]⟩ : ByteArray) ++ x3_1).size + 1≤9223372036854775807)=true:=decide_eq_true c58;try have c58b2:(9223372036854775807 < ((⟨#[123]⟩ : ByteArray) ++ x3_1).size + 1)=False:=eq_false (Nat.not_lt.2 c58)
         try (have c58b9:=c58b2;simp only[ByteArray.size_append,show(⟨#[123]⟩ : ByteArray).size=1 from rfl] at c58b9)
         obtain rfl:=Option.some.inj H;obtain⟨y59_0,y59_1,y59_2,y59_3,y59_4,y59_5,y59_6,z59_0,z59_1,z59_2,z59_3,z59_4,z59_5,z59_6⟩:=bx7f BK101.out;go_wp2;go_ret
         exact⟨by first|rfl|(simp[*,zw,zv] <;> rfl),by solve_by_elim (maxDepth:=20) only[HB.out,L,O,J,qz,GE101.out]⟩
        ·rw[if_neg c58] at H;exact absurd H (by simp)
       ·rw[if_neg c57] at H;exact absurd H (by simp)
      ·rw[if_neg c56] at H;exact absurd H (by simp)
 ·replace c3:=jq9.mpr c3;subst c3;have H1:(some (⟨#[]⟩ : ByteArray))=some r:=by rw[if_neg (show ¬ (false=true) by decide)] at H;exact H
  clear H;have H:=H1;clear H1;obtain rfl:=Option.some.inj H;go_enter Tryz.func16,Tryz.ntmps16;go_wp2_with (first|((with_reducible refine gate_dst (N:=1) rfl ?_);refine box_event ?hg (N:=1) ?hd (cs:=#[.int .i64 a0_0,.int .i64 a0_1,.int .i64 a0_2,.string a0_3,.string a0_4,.slice A0_5 l0_5.length c0_5,.slice A0_6 l0_6.length c0_6]) (t:=33) ?hr ?_;(case hd=>rfl);(case hg=>rfl);(case hr=>first|(go_simp;done)|(go_simp;rfl));intro gb101 hg w63 hbox hb;have BK101:=U.mk (hbox);have GW101:=U.mk ((by rw[hg];exact(zq (by solve_by_elim only[HB.out,L,O,J])):w.heap.size≤gb101));have GE101:=GW101;replace HB:=U.mk (qx (by solve_by_elim only[HB.out,L,O,J]) hb);clear hb hbox hg;obtain⟨y64_0,y64_1,y64_2,y64_3,y64_4,y64_5,y64_6,z64_0,z64_1,z64_2,z64_3,z64_4,z64_5,z64_6⟩:=bx7f BK101.out)|((with_reducible refine zx (f:=36) rfl ?_);refine goesL_ (some 7) rfl rfl Tryz.func36 (by kernel_rfl) rfl #[.agg #[.int .i64 a0_0,.int .i64 a0_1,.int .i64 a0_2,.string a0_3,.string a0_4,.slice A0_5 l0_5.length c0_5,.slice A0_6 l0_6.length c0_6]] rfl (by(try simp only[jq0,jq1,jq2]);first|done|rfl|(simp only[jq3,jq4];rfl)) ?_;(with_reducible refine(qkj.calls k a0_0 a0_1 a0_2 a0_3 a0_4 _ _ l0_5 _ _ l0_6 false _ ?side1 ?side2 ?side3 ?side4 A2.out).mono ?_);(case side1=>solve_by_elim only[(Kd.C_below HR0_5.out HB.out),Kd.C_alloc,Kd.C_drewN,Kd.C_drew]);(case side2=>exact HC0_5.out);(case side3=>solve_by_elim only[(Kd.C_below HR0_6.out HB.out),Kd.C_alloc,Kd.C_drewN,Kd.C_drew]);(case side4=>exact HC0_6.out);rintro e w65 ⟨rfl,hb⟩;refine⟨_,rfl,?_⟩;replace BK101:=U.mk (jx (by solve_by_elim only[BK101.out,qk,qv,qj]) hb);replace HB:=U.mk (qx (by solve_by_elim (maxDepth:=20) only[HB.out,L,O,J,qz,GE101.out]) hb);(try clear hb)))
  go_ret
  exact⟨by first|rfl|(simp[*,zw,zv] <;> rfl),by solve_by_elim (maxDepth:=20) only[HB.out,L,O,J,qz,GE101.out]⟩
end Go.Proofs.YtkcdefnpbnbaeaaGreatDoor.Pr
namespace Go.Proofs.YtkcdefnpbnbaeaaGreatDoor.Pr
open Go.RowKit Go.Proofs.YtkcdefnpbnbaeaaGreatDoorW.PrintWords Go.Proofs.YtkcdefnpbnbaeaaGreatDoorW.PrintLast Go.Proofs.YtkcdefnpbnbaeaaGreatDoorW.PrintMore
attribute [local go_sem] max2_int min2_int max_two min_two max_three min_three max_four min_four
set_option linter.unusedVariables false
set_option linter.unusedSimpArgs false
def zqz.f (k:Nat) (a0_0:Int) (a0_1:Int) (a0_2:Int) (a0_3:ByteArray) (a0_4:ByteArray) (l0_5:List (S30)) (l0_6:List ByteArray):Option (Bool):=if a0_0=3 then((qkj.f k a0_0 a0_1 a0_2 a0_3 a0_4 l0_5 l0_6).bind fun t102=>(some t102)) else(some false)
theorem zqz.calls (k:Nat) (a0_0:Int) (a0_1:Int) (a0_2:Int) (a0_3:ByteArray) (a0_4:ByteArray) (A0_5:Option Addr) (c0_5:Nat) (l0_5:List (S30)) (A0_6:Option Addr) (c0_6:Nat) (l0_6:List ByteArray) (r:Bool) (w:World) (hr0_5:Kd.C k30 w A0_5 l0_5.length l0_5) (hc0_5:l0_5.length≤c0_5) (hr0_6:Kd.C Kd.string w A0_6 l0_6.length l0_6) (hc0_6:l0_6.length≤c0_6) (h:zqz.f k a0_0 a0_1 a0_2 a0_3 a0_4 l0_5 l0_6=some r) :
  Calls Tryz.prog 34 #[.agg #[.int .i64 a0_0,.int .i64 a0_1,.int .i64 a0_2,.string a0_3,.string a0_4,.slice A0_5 l0_5.length c0_5,.slice A0_6 l0_6.length c0_6]] w fun e w'=>e=.returned (.bool r)∧Below w.heap.size w w':=by
 have hu33:=Tryz.underlying33;have HR0_5:=U.mk hr0_5;have HC0_5:=U.mk hc0_5;clear hr0_5 hc0_5;have HR0_6:=U.mk hr0_6;have HC0_6:=U.mk hc0_6;clear hr0_6 hc0_6;have HB:=U.mk (Below.refl w.heap.size w);unfold zqz.f at h;have H:=h;clear h
 by_cases c2:a0_0=3
 ·rw[if_pos c2] at H;have c2b0:(a0_0 == 3)=true:=beq_iff_eq.mpr c2;have c2b1:(a0_0 != 3)=false:=bne_eq_false_iff_eq.mpr c2;clear c2;replace H:=jq8.mp H;obtain⟨t102,A30,H⟩:=H;replace H:(some t102)=some r:=H;have A3:=U.mk A30;clear A30;obtain rfl:=Option.some.inj H;go_enter Tryz.func34,Tryz.ntmps34;go_wp2_with (first|((with_reducible refine gate_dst (N:=1) rfl ?_);refine box_event ?hg (N:=1) ?hd (cs:=#[.int .i64 a0_0,.int .i64 a0_1,.int .i64 a0_2,.string a0_3,.string a0_4,.slice A0_5 l0_5.length c0_5,.slice A0_6 l0_6.length c0_6]) (t:=33) ?hr ?_;(case hd=>rfl);(case hg=>rfl);(case hr=>first|(go_simp;done)|(go_simp;rfl));intro gb101 hg w4 hbox hb;have BK101:=U.mk (hbox);have GW101:=U.mk ((by rw[hg];exact(zq (by solve_by_elim only[HB.out,L,O,J])):w.heap.size≤gb101));have GE101:=GW101;replace HB:=U.mk (qx (by solve_by_elim only[HB.out,L,O,J]) hb);clear hb hbox hg;obtain⟨y5_0,y5_1,y5_2,y5_3,y5_4,y5_5,y5_6,z5_0,z5_1,z5_2,z5_3,z5_4,z5_5,z5_6⟩:=bx7f BK101.out)|(go_at_call 36;(with_reducible refine(qkj.calls k a0_0 a0_1 a0_2 a0_3 a0_4 _ _ l0_5 _ _ l0_6 t102 _ ?side1 ?side2 ?side3 ?side4 A3.out).mono ?_);(case side1=>solve_by_elim only[(Kd.C_below HR0_5.out HB.out),Kd.C_alloc,Kd.C_drewN,Kd.C_drew]);(case side2=>exact HC0_5.out);(case side3=>solve_by_elim only[(Kd.C_below HR0_6.out HB.out),Kd.C_alloc,Kd.C_drewN,Kd.C_drew]);(case side4=>exact HC0_6.out);rintro e w6 ⟨rfl,hb⟩;replace BK101:=U.mk (jx (by solve_by_elim only[BK101.out,qk,qv,qj]) hb);replace HB:=U.mk (qx (by solve_by_elim (maxDepth:=20) only[HB.out,L,O,J,qz,GE101.out]) hb);(try clear hb)))
  go_ret
  exact⟨by first|rfl|(simp[*,zw,zv] <;> rfl),by solve_by_elim (maxDepth:=20) only[HB.out,L,O,J,qz,GE101.out]⟩
 ·rw[if_neg c2] at H;have c2b0:(a0_0 == 3)=false:=beq_eq_false_iff_ne.mpr c2;have c2b1:(a0_0 != 3)=true:=bne_iff_ne.mpr c2;obtain rfl:=Option.some.inj H;go_enter Tryz.func34,Tryz.ntmps34;go_wp2_with (first|((with_reducible refine gate_dst (N:=1) rfl ?_);refine box_event ?hg (N:=1) ?hd (cs:=#[.int .i64 a0_0,.int .i64 a0_1,.int .i64 a0_2,.string a0_3,.string a0_4,.slice A0_5 l0_5.length c0_5,.slice A0_6 l0_6.length c0_6]) (t:=33) ?hr ?_;(case hd=>rfl);(case hg=>rfl);(case hr=>first|(go_simp;done)|(go_simp;rfl));intro gb101 hg w7 hbox hb;have BK101:=U.mk (hbox);have GW101:=U.mk ((by rw[hg];exact(zq (by solve_by_elim only[HB.out,L,O,J])):w.heap.size≤gb101));have GE101:=GW101;replace HB:=U.mk (qx (by solve_by_elim only[HB.out,L,O,J]) hb);clear hb hbox hg;obtain⟨y8_0,y8_1,y8_2,y8_3,y8_4,y8_5,y8_6,z8_0,z8_1,z8_2,z8_3,z8_4,z8_5,z8_6⟩:=bx7f BK101.out))
  go_ret
  exact⟨by first|rfl|(simp[*,zw,zv] <;> rfl),by solve_by_elim (maxDepth:=20) only[HB.out,L,O,J,qz,GE101.out]⟩
end Go.Proofs.YtkcdefnpbnbaeaaGreatDoor.Pr
