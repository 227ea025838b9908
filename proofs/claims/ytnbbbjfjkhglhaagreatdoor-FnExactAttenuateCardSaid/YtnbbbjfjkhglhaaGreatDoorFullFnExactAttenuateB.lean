/- Printed texts, walks and plain facts that the law FnExactAttenuate leans on, joined. -/
import Derived.Test.YtnbbbjfjkhglhaaGreatDoorFullFnExactAttenuateA
import Derived.ProofKit
import Derived.OpenShut
import Derived.ShutString
import Derived.ChangeOld
import Derived.Deep.Slices
import Derived.Lib.SmallJoins
import Derived.Test.YtnbbbjfjkhglhaaGreatDoorProg
import Derived.Below
import Derived.Deep.Draws
import Derived.Deep.AppendLies
import Derived.Maps.AppendAt
import Derived.OwnWalk
import Derived.Laws.BytesArg
import Derived.Laws.MakeOwn
import Derived.Laws.OwnMore
import Derived.Deep.OwnRows
import Derived.Tactics
import Derived.Lib.ConvBytes
import Derived.Laws.Slices
import Derived.WalkKit
import Derived.KernelRfl
import Derived.RowKit3
import Derived.Deep.LoopGhost
import Derived.Deep.QuietTactic
import Derived.BigQuiet
import Derived.WideLaws
import Derived.Deep.DeepCutAuto
import Derived.Deep.CutBlock
import Derived.Deep.RegionHeld3
import Derived.Laws.Rows
import Derived.Lib.AppendStr
import Derived.ArgAppend
import Derived.Laws.IdiomCopy
import Derived.OrdersHeld
import Derived.Laws.BitsLemmas
import Derived.RowKit
import Derived.WalkSpells
import Derived.Shelf.Abstract
import Derived.Shelf.Strconv.Itoa3
import Derived.Lib.AppendIntMem
import Derived.Laws.Cover1
import Derived.Laws.Tables
import Derived.Laws.CopyRow
import Derived.Laws.CopyOwn
import Derived.Tactics2
import Derived.Defers
import Derived.Laws.Pointers
import Derived.Laws.LoneSync
import Derived.RegionTactic
import Derived.RegionCalls
import Derived.ChangeAlike
import Derived.Laws.NewBlocks
import Derived.Lib.CountLaws
import Derived.Lib.Bytealg
import Derived.Shelf.Lays
import Derived.Lib.Walk
import Derived.StillTailTactics
set_option maxHeartbeats 8000000
set_option maxRecDepth 100000
open List renaming map_toArray → jq0, map_cons → jq1, map_nil → jq2, length_drop → jq3, length_take → jq4, setIfInBounds_toArray → jq5, set_cons_zero → jq6, set_cons_succ → jq7
open Option renaming bind_eq_some_iff → jq8
open Bool renaming eq_false_iff → jq9, true → Z, false → U
namespace Go.Proofs.YtnbbbjfjkhglhaaGreatDoor.Read
open Go.RowKit Go.ChangeShapes Go.WideShapes Go.Deep Go.Proofs.YtnbbbjfjkhglhaaGreatDoorW.PrintWords
set_option linter.unusedVariables false
def Tells (P:Program) (t:TypeId) {α:Type} (d:Kd α) (ok : α→Prop):Prop :=
 P.cellsOf t=d.sz∧∀ (H:Type) (enc:TypeId × Value→H) (w:World) (sp:Nat→Bool) (fuel:Nat) (cs:List Value) (x:DataW H × List MemPlace),
  DataW.trod enc P w 0 sp true fuel t cs=some x→∃ a : α,d.K w a cs∧ok a
theorem tells_int {P:Program} {t:TypeId} {k:IntKind} (ht:P.underlying t=some (.int k)) (hc:P.cellsOf t=1):Tells P t (Kd.int k) (fun n=>(Lit.int k n).wf=true) :=
 ⟨hc,fun H enc w sp fuel cs x h=>by
  obtain⟨n,rfl,_,hw⟩:=DataW.trod_int ht h;exact⟨n,rfl,hw⟩⟩
theorem tells_string {P:Program} {t:TypeId} (ht:P.underlying t=some .string) (hc:P.cellsOf t=1):Tells P t Kd.string (fun s=>s.size≤maxLen) :=
 ⟨hc,fun H enc w sp fuel cs x h=>by
  obtain⟨n,rfl,_,hs⟩:=DataW.trod_string ht h;exact⟨n,rfl,hs⟩⟩
theorem tells_slice {P:Program} {t e:TypeId} {α:Type} {d:Kd α} {ok : α→Prop} (ht:P.underlying t=some (.slice e)) (hc:P.cellsOf t=1) (he:Tells P e d ok) :
  Tells P t (Kd.slice e d) (fun xs=>xs.length≤9223372036854775807∧∀ x ∈ xs,ok x):=by
 refine⟨hc,fun H enc w sp fuel cs x h=>?_⟩
 rcases open_slice ht h with ⟨rfl,_⟩|⟨a,len,cap,m,n,D,Pl,rfl,_,hl,hm,hmm,_,hx⟩
 ·exact⟨[],⟨none,0,rfl,by simp,Kd.C_nil d w⟩,by simp,by simp⟩
 ·have hlm:len≤m:=by rw[hmm];split <;> omega
  have hmax:len≤9223372036854775807:=by unfold maxLen at hm;omega
  have key:∀ j,j≤len→∃ xs:List α,xs.length=j∧(∀ x ∈ xs,ok x)∧∀ i p,xs[i]? = some p→∃ c,c.length=d.sz∧d.K w p c∧∀ k u,c[k]? = some u→w.cell? (a.add (i * d.sz + k))=some u:=by
   intro j
   induction j with
   | zero=>exact fun _=>⟨[],rfl,by simp,by simp⟩
   | succ j ih =>
    intro hj
    obtain⟨xs,hxl,hok,hc⟩:=ih (by omega);obtain⟨cs',h1,h2⟩:=hx j (by omega);obtain⟨y,hy,hoky⟩:=he.2 H enc w sp n cs' _ h2;obtain⟨_,hcl,hcc⟩:=World.cells?_some h1;refine⟨xs ++ [y],by simp[hxl],fun x hx=>?_,fun i p hp=>?_⟩
    ·rcases List.mem_append.1 hx with hx|hx
     ·exact hok x hx
     ·rw[List.mem_singleton.1 hx];exact hoky
    ·rcases Nat.lt_or_ge i xs.length with hi|hi
     ·rw[List.getElem?_append_left hi] at hp;exact hc i p hp
     ·rw[List.getElem?_append_right hi] at hp
      have hi':i=xs.length:=by
       rcases Nat.eq_zero_or_pos (i - xs.length) with h0|h0
       ·omega
       ·rw[List.getElem?_eq_none (by simp;omega)] at hp;cases hp
      subst hi';simp only[Nat.sub_self,List.getElem?_cons_zero,Option.some.injEq] at hp;subst hp;refine⟨cs',by rw[hcl,he.1],hy,fun k u hu=>?_⟩
      have hk:k < P.cellsOf e:=by
       rcases Nat.lt_or_ge k cs'.length with h|h
       ·omega
       ·rw[List.getElem?_eq_none h] at hu;cases hu
      have:=hcc k hk;rw[Go.Addr.add_add,he.1,← hxl] at this;rw[this];exact hu
  obtain⟨xs,hxl,hok,hc⟩:=key len (Nat.le_refl _);refine⟨xs,⟨some a,cap,by rw[hxl],by omega,?_⟩,by omega,hok⟩;exact⟨rfl,by omega,fun _=>⟨a,rfl,hc⟩⟩
def TellsFs (P:Program) (fs:List Field) (o:Nat) {α:Type} (d:Kd α) (ok : α→Prop):Prop :=
 ∀ (H:Type) (enc:TypeId × Value→H) (w:World) (sp:Nat→Bool) (n:Nat) (cs:List Value),o + d.sz=cs.length →
  (∀ f ∈ fs,∃ x,DataW.trod enc P w 0 sp true n f.type ((cs.drop f.offset).take (P.cellsOf f.type))=some x)→∃ a,d.K w a (cs.drop o)∧ok a
theorem fs_one {P:Program} {f:Field} {o:Nat} {α:Type} {d:Kd α} {ok : α→Prop} (ho:f.offset=o) (hf:Tells P f.type d ok):TellsFs P [f] o d ok:=by
 intro H enc w sp n cs hl h
 obtain⟨x,hx⟩:=h f List.mem_cons_self;obtain⟨a,ha,hok⟩:=hf.2 H enc w sp n _ x hx;refine⟨a,?_,hok⟩;rw[ho,hf.1,List.take_of_length_le (by rw[jq3];omega)] at ha;exact ha
theorem fs_cons {P:Program} {f:Field} {fs:List Field} {o:Nat} {α β:Type} {d:Kd α} {ok : α→Prop} {d2:Kd β} {ok2 : β→Prop} (ho:f.offset=o) (hf:Tells P f.type d ok)
  (hr:TellsFs P fs (o + d.sz) d2 ok2):TellsFs P (f :: fs) o (Kd.pair d d2) (fun p=>ok p.1∧ok2 p.2):=by
 intro H enc w sp n cs hl h
 have hl':o + (d.sz + d2.sz)=cs.length:=hl;obtain⟨x,hx⟩:=h f List.mem_cons_self;obtain⟨a,ha,hok⟩:=hf.2 H enc w sp n _ x hx;obtain⟨b,hb,hok2⟩:=hr H enc w sp n cs (by omega) (fun g hg=>h g (List.mem_cons_of_mem _ hg));refine⟨(a,b),⟨(cs.drop o).take d.sz,cs.drop (o + d.sz),?_,?_,hb⟩,hok,hok2⟩
 ·rw[← List.drop_drop,List.take_append_drop]
 ·rw[ho,hf.1] at ha;exact ha
theorem tells_struct {P:Program} {t:TypeId} {fs:Array Field} {α:Type} {d:Kd α} {ok : α→Prop} (ht:P.underlying t=some (.struct fs)) (hc:P.cellsOf t=d.sz) (hf:TellsFs P fs.toList 0 d ok):Tells P t d ok:=by
 refine⟨hc,fun H enc w sp fuel cs x h=>?_⟩;obtain⟨xs,n,rfl,_,hl,hxl,hx⟩:=DataW.trod_struct ht h
 have:=hf H enc w sp n cs (by rw[Nat.zero_add,← hc,hl]) (fun f hmem=>by
  obtain⟨i,hi,rfl⟩:=List.getElem_of_mem hmem;have hi':i < fs.size:=by simpa using hi
  have h1:=hx i (fs.toList[i]) (by simp[hi']);refine⟨xs[i]'(by omega),?_⟩;rw[h1,List.getElem?_eq_getElem])
 simpa using this
theorem tells_iso {P:Program} {t:TypeId} {α β:Type} {d:Kd α} {ok : α→Prop} (f : β→α) (g : α→β) (hfg:∀ a,f (g a)=a) (h:Tells P t d ok):Tells P t (Kd.iso d f) (fun b=>ok (f b)) :=
 ⟨h.1,fun H enc w sp fuel cs x hx=>by
  obtain⟨a,ha,hok⟩:=h.2 H enc w sp fuel cs x hx;exact⟨g a,by show d.K w (f (g a)) cs;rw[hfg];exact ha,by show ok (f (g a));rw[hfg];exact hok⟩⟩
theorem tells_weaken {P:Program} {t:TypeId} {α:Type} {d:Kd α} {ok ok' : α→Prop} (h:Tells P t d ok) (hw:∀ a,ok a→ok' a):Tells P t d ok' :=
 ⟨h.1,fun H enc w sp fuel cs x hx=>let ⟨a,ha,ho⟩:=h.2 H enc w sp fuel cs x hx;⟨a,ha,hw a ho⟩⟩
theorem tells_arg {P:Program} {t:TypeId} {α:Type} {d:Kd α} {ok : α→Prop} (h:Tells P t d ok) {H:Type} {enc:TypeId × Value→H} {w:World} {sp:Nat→Bool} {v:Value} {D:DataW H} {ps:List MemPlace}
  (hv:DataW.Trod enc P w 0 sp true t v D ps):∃ a,d.K w a v.cells.toList∧ok a:=by
 obtain⟨fuel,hf⟩:=hv;exact h.2 H enc w sp fuel _ _ hf
theorem int_bounds {n:Int} (h:(Lit.int .i64 n).wf=true) : -9223372036854775808≤n∧n≤9223372036854775807:=by
 simpa [Lit.wf,IntKind.min,IntKind.max,IntKind.signed,IntKind.bits] using h
theorem byte_bounds {n:Int} (h:(Lit.int .u8 n).wf=true) : 0≤n∧n≤255:=by
 simpa [Lit.wf,IntKind.min,IntKind.max,IntKind.signed,IntKind.bits] using h
def okI (n:Int):Prop:=-9223372036854775808≤n∧n≤9223372036854775807
def okB (n:Int):Prop:=0≤n∧n≤255
def okS (s:ByteArray):Prop:=s.size≤9223372036854775807
def okL {α:Type} (ok : α→Prop) (xs:List α):Prop:=xs.length≤9223372036854775807∧∀ x ∈ xs,ok x
theorem tellsI {P:Program} {t:TypeId} (ht:P.underlying t=some (.int .i64)) (hc:P.cellsOf t=1):Tells P t (Kd.int .i64) okI:=tells_weaken (tells_int ht hc) fun _ h=>int_bounds h
theorem tellsB {P:Program} {t:TypeId} (ht:P.underlying t=some (.int .u8)) (hc:P.cellsOf t=1):Tells P t (Kd.int .u8) okB:=tells_weaken (tells_int ht hc) fun _ h=>byte_bounds h
theorem tellsS {P:Program} {t:TypeId} (ht:P.underlying t=some .string) (hc:P.cellsOf t=1):Tells P t Kd.string okS:=tells_weaken (tells_string ht hc) fun _ h=>by unfold maxLen at h;exact h
theorem tellsL {P:Program} {t e:TypeId} {α:Type} {d:Kd α} {ok : α→Prop} (ht:P.underlying t=some (.slice e)) (hc:P.cellsOf t=1) (he:Tells P e d ok):Tells P t (Kd.slice e d) (okL ok):=tells_slice ht hc he
theorem agg_of {P:Program} {t:TypeId} {fs:Array Field} {w:World} {r:Reach} {base:Nat} {v:Value} {cs:List Value} (ht:P.underlying t=some (.struct fs)) (hv:Value.okWide P w r base t v) (hc:v.cells.toList=cs):v=.agg cs.toArray:=by
 obtain⟨xs,rfl,_⟩:=okWide_struct ht hv;subst hc;simp[Value.cells]
theorem arg_struct {P:Program} {t:TypeId} {fs:Array Field} {α:Type} {d:Kd α} {ok : α→Prop} (ht:P.underlying t=some (.struct fs)) (h:Tells P t d ok) {H:Type} {enc:TypeId × Value→H} {w w2:World} {r:Reach} {base:Nat} {sp:Nat→Bool} {v:Value} {D:DataW H} {ps:List MemPlace}
  (ho:Value.okWide P w2 r base t v) (hv:DataW.Trod enc P w 0 sp true t v D ps):∃ a cs,v=.agg cs.toArray∧d.K w a cs∧ok a:=by
 obtain⟨a,hK,hok⟩:=tells_arg h hv;exact⟨a,_,agg_of ht ho rfl,hK,hok⟩
end Go.Proofs.YtnbbbjfjkhglhaaGreatDoor.Read
namespace Go.Proofs.YtnbbbjfjkhglhaaGreatDoor.Pr
open Go.RowKit Go.Proofs.YtnbbbjfjkhglhaaGreatDoorW.PrintWords Go.Proofs.YtnbbbjfjkhglhaaGreatDoorW.PrintLast Go.Proofs.YtnbbbjfjkhglhaaGreatDoorW.PrintMore
attribute [local go_sem] max2_int min2_int max_two min_two max_three min_three max_four min_four
set_option linter.unusedVariables false
set_option linter.unusedSimpArgs false
def errW:Option Int→Value
 | none=>.nilIface
 | some c=>.iface 0 (.int .i64 c)
theorem zx:errW none=.nilIface:=rfl
theorem zw (c:Int):errW (some c)=.iface 0 (.int .i64 c):=rfl
theorem info5:(Tryz.prog.info? 5).map (fun i=>(i.zero,i.size,i.bytes))=some (some (.int .u8 0),1,1):=by kernel_rfl
theorem info9:(Tryz.prog.info? 9).map (fun i=>(i.zero,i.size,i.bytes))=some (some (.string ⟨#[]⟩),1,16):=by kernel_rfl
theorem info30:(Tryz.prog.info? 30).map (fun i=>(i.zero,i.size,i.bytes))=some (some (.agg #[(.string ⟨#[]⟩),(.int .i64 0),(.string ⟨#[]⟩),(.int .i64 0),(.int .i64 0),(.string ⟨#[]⟩),(.string ⟨#[]⟩)]),7,88):=by kernel_rfl
structure S28 where
 f0:Int
 f1:Int
 f2:ByteArray
 f3:ByteArray
def z28:S28:=⟨(0:Int),(0:Int),(⟨#[]⟩ : ByteArray),(⟨#[]⟩ : ByteArray)⟩
def k28:Kd S28:=Kd.iso (Kd.pair (Kd.int .i64) (Kd.pair (Kd.int .i64) (Kd.pair Kd.string Kd.string))) (fun x:S28=>(x.f0,x.f1,x.f2,x.f3))
theorem k28_open {w:World} {x:S28} {cs:List Value} (h:k28.K w x cs):cs=[.int .i64 x.f0,.int .i64 x.f1,.string x.f2,.string x.f3]:=by
 obtain⟨_,_,rfl,rfl,⟨_,_,rfl,rfl,⟨_,_,rfl,rfl,rfl⟩⟩⟩:=h;exact rfl
theorem k28_openM {w:World} {base:Nat} {ok:Nat→Prop} {x:S28} {cs:List Value} (h:k28.M w base ok x cs):cs=[.int .i64 x.f0,.int .i64 x.f1,.string x.f2,.string x.f3]:=by
 obtain⟨_,_,rfl,rfl,⟨_,_,rfl,rfl,⟨_,_,rfl,rfl,rfl⟩⟩⟩:=h;exact rfl
theorem k28_mkM (w:World) (base:Nat) (ok:Nat→Prop) (x:S28)  : k28.M w base ok x [.int .i64 x.f0,.int .i64 x.f1,.string x.f2,.string x.f3]:=⟨[.int .i64 x.f0],[.int .i64 x.f1,.string x.f2,.string x.f3],rfl,rfl,⟨[.int .i64 x.f1],[.string x.f2,.string x.f3],rfl,rfl,⟨[.string x.f2],[.string x.f3],rfl,rfl,rfl⟩⟩⟩
structure S30 where
 f0:ByteArray
 f1:Int
 f2:ByteArray
 f3:S28
def z30:S30:=⟨(⟨#[]⟩ : ByteArray),(0:Int),(⟨#[]⟩ : ByteArray),z28⟩
def k30:Kd S30:=Kd.iso (Kd.pair Kd.string (Kd.pair (Kd.int .i64) (Kd.pair Kd.string k28))) (fun x:S30=>(x.f0,x.f1,x.f2,x.f3))
theorem k30_open {w:World} {x:S30} {cs:List Value} (h:k30.K w x cs):cs=[.string x.f0,.int .i64 x.f1,.string x.f2,.int .i64 x.f3.f0,.int .i64 x.f3.f1,.string x.f3.f2,.string x.f3.f3]:=by
 obtain⟨_,_,rfl,rfl,⟨_,_,rfl,rfl,⟨_,_,rfl,rfl,s3⟩⟩⟩:=h;obtain rfl:=k28_open s3;exact rfl
theorem k30_openM {w:World} {base:Nat} {ok:Nat→Prop} {x:S30} {cs:List Value} (h:k30.M w base ok x cs):cs=[.string x.f0,.int .i64 x.f1,.string x.f2,.int .i64 x.f3.f0,.int .i64 x.f3.f1,.string x.f3.f2,.string x.f3.f3]:=by
 obtain⟨_,_,rfl,rfl,⟨_,_,rfl,rfl,⟨_,_,rfl,rfl,s3⟩⟩⟩:=h;obtain rfl:=k28_openM s3;exact rfl
theorem k30_mkM (w:World) (base:Nat) (ok:Nat→Prop) (x:S30)  : k30.M w base ok x [.string x.f0,.int .i64 x.f1,.string x.f2,.int .i64 x.f3.f0,.int .i64 x.f3.f1,.string x.f3.f2,.string x.f3.f3]:=⟨[.string x.f0],[.int .i64 x.f1,.string x.f2,.int .i64 x.f3.f0,.int .i64 x.f3.f1,.string x.f3.f2,.string x.f3.f3],rfl,rfl,⟨[.int .i64 x.f1],[.string x.f2,.int .i64 x.f3.f0,.int .i64 x.f3.f1,.string x.f3.f2,.string x.f3.f3],rfl,rfl,⟨[.string x.f2],[.int .i64 x.f3.f0,.int .i64 x.f3.f1,.string x.f3.f2,.string x.f3.f3],rfl,rfl,(k28_mkM w base ok x.f3 )⟩⟩⟩
def kw (xs:List S30) (i:Int):S30:=xs.getD i.toNat z30
theorem at_T30 {w:World} {A:Option Addr} {n:Nat} {xs:List S30} (h:Kd.C k30 w A n xs) (i:Int) (h0 : 0≤i) (h1:i < n):∃ ad ,A=some ad∧w.cell? (ad.add (i.toNat * 7))=some (.string (kw xs i).f0)∧w.cell? ⟨(ad.add (i.toNat * 7)).block,(ad.add (i.toNat * 7)).off + 1,none⟩ = some (.int .i64 (kw xs i).f1)∧w.cell? ⟨(ad.add (i.toNat * 7)).block,(ad.add (i.toNat * 7)).off + 2,none⟩ = some (.string (kw xs i).f2)∧w.cell? ⟨(ad.add (i.toNat * 7)).block,(ad.add (i.toNat * 7)).off + 3,none⟩ = some (.int .i64 (kw xs i).f3.f0)∧w.cell? ⟨(ad.add (i.toNat * 7)).block,(ad.add (i.toNat * 7)).off + 4,none⟩ = some (.int .i64 (kw xs i).f3.f1)∧w.cell? ⟨(ad.add (i.toNat * 7)).block,(ad.add (i.toNat * 7)).off + 5,none⟩ = some (.string (kw xs i).f3.f2)∧w.cell? ⟨(ad.add (i.toNat * 7)).block,(ad.add (i.toNat * 7)).off + 6,none⟩ = some (.string (kw xs i).f3.f3):=by
 obtain⟨ad,c,e,_,hK,hc0⟩:=Kd.C_get h z30 i h0 h1;have hc:∀ j u,c[j]? = some u→w.cell? (ad.add (i.toNat * 7 + j))=some u:=hc0;obtain rfl:=k30_open hK;exact⟨ad,e,hc 0 _ rfl,by rw[← add_field _ _ 1 (by omega)];exact hc 1 _ rfl,by rw[← add_field _ _ 2 (by omega)];exact hc 2 _ rfl,by rw[← add_field _ _ 3 (by omega)];exact hc 3 _ rfl,by rw[← add_field _ _ 4 (by omega)];exact hc 4 _ rfl,by rw[← add_field _ _ 5 (by omega)];exact hc 5 _ rfl,by rw[← add_field _ _ 6 (by omega)];exact hc 6 _ rfl⟩
structure S23 where
 f0:Int
 f1:Int
 f2:ByteArray
 f3:ByteArray
def z23:S23:=⟨(0:Int),(0:Int),(⟨#[]⟩ : ByteArray),(⟨#[]⟩ : ByteArray)⟩
def k23:Kd S23:=Kd.iso (Kd.pair (Kd.int .i64) (Kd.pair (Kd.int .i64) (Kd.pair Kd.string Kd.string))) (fun x:S23=>(x.f0,x.f1,x.f2,x.f3))
theorem k23_open {w:World} {x:S23} {cs:List Value} (h:k23.K w x cs):cs=[.int .i64 x.f0,.int .i64 x.f1,.string x.f2,.string x.f3]:=by
 obtain⟨_,_,rfl,rfl,⟨_,_,rfl,rfl,⟨_,_,rfl,rfl,rfl⟩⟩⟩:=h;exact rfl
structure S25 where
 f0:ByteArray
 f1:Int
 f2:ByteArray
 f3:S23
def z25:S25:=⟨(⟨#[]⟩ : ByteArray),(0:Int),(⟨#[]⟩ : ByteArray),z23⟩
def k25:Kd S25:=Kd.iso (Kd.pair Kd.string (Kd.pair (Kd.int .i64) (Kd.pair Kd.string k23))) (fun x:S25=>(x.f0,x.f1,x.f2,x.f3))
theorem k25_open {w:World} {x:S25} {cs:List Value} (h:k25.K w x cs):cs=[.string x.f0,.int .i64 x.f1,.string x.f2,.int .i64 x.f3.f0,.int .i64 x.f3.f1,.string x.f3.f2,.string x.f3.f3]:=by
 obtain⟨_,_,rfl,rfl,⟨_,_,rfl,rfl,⟨_,_,rfl,rfl,s3⟩⟩⟩:=h;obtain rfl:=k23_open s3;exact rfl
def kv (xs:List S25) (i:Int):S25:=xs.getD i.toNat z25
theorem at_T25 {w:World} {A:Option Addr} {n:Nat} {xs:List S25} (h:Kd.C k25 w A n xs) (i:Int) (h0 : 0≤i) (h1:i < n):∃ ad ,A=some ad∧w.cell? (ad.add (i.toNat * 7))=some (.string (kv xs i).f0)∧w.cell? ⟨(ad.add (i.toNat * 7)).block,(ad.add (i.toNat * 7)).off + 1,none⟩ = some (.int .i64 (kv xs i).f1)∧w.cell? ⟨(ad.add (i.toNat * 7)).block,(ad.add (i.toNat * 7)).off + 2,none⟩ = some (.string (kv xs i).f2)∧w.cell? ⟨(ad.add (i.toNat * 7)).block,(ad.add (i.toNat * 7)).off + 3,none⟩ = some (.int .i64 (kv xs i).f3.f0)∧w.cell? ⟨(ad.add (i.toNat * 7)).block,(ad.add (i.toNat * 7)).off + 4,none⟩ = some (.int .i64 (kv xs i).f3.f1)∧w.cell? ⟨(ad.add (i.toNat * 7)).block,(ad.add (i.toNat * 7)).off + 5,none⟩ = some (.string (kv xs i).f3.f2)∧w.cell? ⟨(ad.add (i.toNat * 7)).block,(ad.add (i.toNat * 7)).off + 6,none⟩ = some (.string (kv xs i).f3.f3):=by
 obtain⟨ad,c,e,_,hK,hc0⟩:=Kd.C_get h z25 i h0 h1;have hc:∀ j u,c[j]? = some u→w.cell? (ad.add (i.toNat * 7 + j))=some u:=hc0;obtain rfl:=k25_open hK;exact⟨ad,e,hc 0 _ rfl,by rw[← add_field _ _ 1 (by omega)];exact hc 1 _ rfl,by rw[← add_field _ _ 2 (by omega)];exact hc 2 _ rfl,by rw[← add_field _ _ 3 (by omega)];exact hc 3 _ rfl,by rw[← add_field _ _ 4 (by omega)];exact hc 4 _ rfl,by rw[← add_field _ _ 5 (by omega)];exact hc 5 _ rfl,by rw[← add_field _ _ 6 (by omega)];exact hc 6 _ rfl⟩
structure S41 where
 f0:ByteArray
 f1:(List S30)
 f2:(List Int)
theorem bx3f {W : World} {g t : Nat} {v0 v1 v2 : Value} (h : W.heap[g]? = some (.cells #[v0, v1, v2] t (0, 0))) : W.cell? ⟨g, 0, none⟩ = some v0 ∧ W.cell? ⟨g, 1, none⟩ = some v1 ∧ W.cell? ⟨g, 2, none⟩ = some v2 ∧ W.frozen? ⟨g, 0, none⟩ = false ∧ W.frozen? ⟨g, 1, none⟩ = false ∧ W.frozen? ⟨g, 2, none⟩ = false := ⟨qz h 0, qz h 1, qz h 2, qq h 0, qq h 1, qq h 2⟩
theorem bx4f {W : World} {g t : Nat} {v0 v1 v2 v3 : Value} (h : W.heap[g]? = some (.cells #[v0, v1, v2, v3] t (0, 0))) : W.cell? ⟨g, 0, none⟩ = some v0 ∧ W.cell? ⟨g, 1, none⟩ = some v1 ∧ W.cell? ⟨g, 2, none⟩ = some v2 ∧ W.cell? ⟨g, 3, none⟩ = some v3 ∧ W.frozen? ⟨g, 0, none⟩ = false ∧ W.frozen? ⟨g, 1, none⟩ = false ∧ W.frozen? ⟨g, 2, none⟩ = false ∧ W.frozen? ⟨g, 3, none⟩ = false := ⟨qz h 0, qz h 1, qz h 2, qz h 3, qq h 0, qq h 1, qq h 2, qq h 3⟩
theorem bx7f {W : World} {g t : Nat} {v0 v1 v2 v3 v4 v5 v6 : Value} (h : W.heap[g]? = some (.cells #[v0, v1, v2, v3, v4, v5, v6] t (0, 0))) : W.cell? ⟨g, 0, none⟩ = some v0 ∧ W.cell? ⟨g, 1, none⟩ = some v1 ∧ W.cell? ⟨g, 2, none⟩ = some v2 ∧ W.cell? ⟨g, 3, none⟩ = some v3 ∧ W.cell? ⟨g, 4, none⟩ = some v4 ∧ W.cell? ⟨g, 5, none⟩ = some v5 ∧ W.cell? ⟨g, 6, none⟩ = some v6 ∧ W.frozen? ⟨g, 0, none⟩ = false ∧ W.frozen? ⟨g, 1, none⟩ = false ∧ W.frozen? ⟨g, 2, none⟩ = false ∧ W.frozen? ⟨g, 3, none⟩ = false ∧ W.frozen? ⟨g, 4, none⟩ = false ∧ W.frozen? ⟨g, 5, none⟩ = false ∧ W.frozen? ⟨g, 6, none⟩ = false := ⟨qz h 0, qz h 1, qz h 2, qz h 3, qz h 4, qz h 5, qz h 6, qq h 0, qq h 1, qq h 2, qq h 3, qq h 4, qq h 5, qq h 6⟩
def bytesOfS.f (s:ByteArray):Option (List Int):=if s.size≤9223372036854775807 then some (bytesOf s) else none
def BytesCalls (P:Program) (src dst:TypeId) (s:ByteArray) (w:World) (R:Ending→World→Prop):Prop :=
 ∃ v w',(convert src dst (.string s)).run P w=.ok v w'∧R (.returned v) w'
theorem BytesCalls.mono {P:Program} {src dst:TypeId} {s:ByteArray} {w:World} {R R':Ending→World→Prop} (h:BytesCalls P src dst s w R) (hr:∀ e w',R e w'→R' e w'):BytesCalls P src dst s w R' :=
 let ⟨v,w',h1,h2⟩:=h;⟨v,w',h1,hr _ _ h2⟩
theorem bytesOfS.calls (a0:ByteArray) (r:List Int) (w:World) (h:bytesOfS.f a0=some r) :
  BytesCalls Tryz.prog 9 34 a0 w fun e w'=>∃ v0_:Value,e=.returned (v0_)∧Kd.V (Kd.int .u8) 5 w' w.heap.size (fun k_=>(w.heap.size≤k_)) v0_ r∧Below w.heap.size w w':=by
 unfold bytesOfS.f at h
 by_cases hs:a0.size≤9223372036854775807
 case neg=>rw[if_neg hs] at h;cases h
 rw[if_pos hs] at h;obtain rfl:=Option.some.inj h;refine⟨_,_,print_bytes 9 34 5 Tryz.underlying9 Tryz.underlying34 Tryz.underlying5 a0 w,_,rfl,?_,kx (Below.refl _ _) (Nat.le_refl _) 5 a0⟩
 have hcell:∀ W':World,W'.heap[w.heap.size]? = (Lib.bytesWorld w 5 a0).heap[w.heap.size]? → (Kd.int .u8).C W' (some ⟨w.heap.size,0,none⟩) (bytesOf a0).length (bytesOf a0):=by
  intro W' hW
  have h0:=vq w 5 a0 hs
  have h1:ReadsInt W' .u8 (some ⟨w.heap.size,0,none⟩) (bytesOf a0).length (bytesOf a0):=by
   refine⟨rfl,by rw[bytesOf_length];exact hs,fun hp=>?_⟩;obtain⟨ad,e1,hc⟩:=h0.2.2 (by rw[bytesOf_length] at hp;exact hp);refine⟨ad,e1,fun j hj=>?_⟩;rw[← hc j (by rw[bytesOf_length] at hj;exact hj)];injection e1 with e1
   subst e1;rw[add_plain];exact World.cell?_of_block (by exact hW)
  exact Kd.C_of_reads (d:=(0:Int)) (h1:=fun _=>rfl) h1
 refine⟨some ⟨w.heap.size,0,none⟩,grownCap w a0.size 0 5,by rw[bytesOf_length],by rw[bytesOf_length];exact grownCap_ge _ _ _ _,fun W' hW=>hcell W' (hW _ (Nat.le_refl _) ?_)⟩;rw[Lib.bytesWorld_size];omega
section
variable {P:Program} {ops:Array Oper} {Q:Exit→Act→World→Prop}
theorem bytesGoes_ {oi:Oper} {N:Option Tmp} {a:Act} {w:World} {K:Act→World→Prop} {src dst:TypeId} {x:Operand} {s:ByteArray}
  (hw:Region.wanted oi (yielded ops a.tmps)=true) (hN:oi.dst=N) (hop:oi.op=.convert src dst x) (hx:a.eval x=.string s)
  (h:BytesCalls P src dst s w fun e w'=>∃ v,e=.returned v∧K (a.put N v) w'):if Region.wanted oi (yielded ops a.tmps)=true then Oper.wp P oi a w K Q else K (a.put N undef) w:=by
 obtain⟨v,w',hr,v',he,hk⟩:=h;injection he with he
 subst he;subst hN;refine event_step hw ?_ hk;unfold execOp;simp[hop,hx,hr]
def BoxCalls (t:TypeId) (cs:Array Value) (w:World) (R:Ending→World→Prop):Prop:=R (.returned (.pointer (some ⟨w.heap.size,0,none⟩))) (w.alloc (.cells cs t (0,0)))
theorem BoxCalls.mono {t:TypeId} {cs:Array Value} {w:World} {R R':Ending→World→Prop} (h:BoxCalls t cs w R) (hr:∀ e w',R e w'→R' e w'):BoxCalls t cs w R':=hr _ _ h
end
def anyO {α:Type} (p : α→Option Bool):List α→Option Bool
 | []=>some false
 | x :: xs=>(p x).bind fun b=>if b=true then some true else anyO p xs
theorem anyO_mono {α:Type} {p q : α→Option Bool} (h:∀ x,LeO (p x) (q x)):∀ l:List α,LeO (anyO p l) (anyO q l)
 | []=>LeO.refl _
 | x :: xs=>LeO.bind (h x) (fun _=>LeO.ite (LeO.refl _) (anyO_mono h xs))
theorem anyO_drop {α:Type} {p : α→Option Bool} {l:List α} {k:Nat} {r:Bool} (hk:k < l.length) (h:anyO p (l.drop k)=some r):∃ b,p l[k]=some b∧(b=true→r=true)∧(b=false→anyO p (l.drop (k + 1))=some r):=by
 rw[List.drop_eq_getElem_cons hk] at h;obtain⟨b,hb,h2⟩:=jq8.1 h;refine⟨b,hb,fun e=>?_,fun e=>?_⟩
 ·subst e;simpa using h2.symm
 ·subst e;simpa using h2
def vv.f (l0:List S30):Option (List S30):=if l0.length < 1599289640401 then some l0 else none
set_option maxHeartbeats 2000000 in
theorem vv.calls (A0:Option Addr) (c0:Nat) (l0:List S30) (r:List S30) (w:World) (hr0:Kd.C k30 w A0 l0.length l0) (hc0:l0.length≤c0) (h:vv.f l0=some r) :
  Calls Tryz.prog 39 #[.slice A0 l0.length c0] w fun e w'=>∃ v0_:Value,e=.returned (v0_)∧Kd.R k30 30 w' w.heap.size (fun _=>True) v0_ r∧Below w.heap.size w w':=by
 unfold vv.f at h
 by_cases hl:l0.length < 1599289640401
 case neg=>rw[if_neg hl] at h;cases h
 rw[if_pos hl] at h;obtain rfl:=Option.some.inj h;clear h;have HB:=O.mk (Below.refl w.heap.size w);have heqnil_:=fun (W:World) (A:Option Addr) (n c:Nat)=>Lib.run_eql_slice_nil (P:=Tryz.prog) W 39 30 A n c 0 0 Tryz.underlying39
 cases A0 with
 | none =>
  have h0:l0=[]:=by
   cases l0 with
   | nil=>rfl
   | cons x xs =>
    obtain⟨ad,e,_⟩:=at_T30 hr0 0 (by omega) (by simp)
    cases e
  subst h0;clear hr0 hc0 hl;go_enter Tryz.func39,Tryz.ntmps39;go_wp2;go_ret
  exact⟨_,rfl,Kd.R_nil _ _ _ _ _,HB.out⟩
 | some ad =>
  have HR0:=O.mk hr0;have HL:=O.mk hl;clear hr0 hc0 hl;go_enter Tryz.func39,Tryz.ntmps39;go_wp2_with (first|((with_reducible refine gate_dst (N:=5) rfl ?_);refine Kd.R_lit k30 _ 30 ?hg (N:=5) ?hd (xs:=([]:List (S30))) (inner:=[]) (ok:=fun _=>True) (okp:=fun _=>True) ?hr ?hp (fun _ hk=>hk) trivial (Below.refl _ _) (Nat.le_refl _) (by simp) ?_;(case hd=>rfl);(case hg=>rfl);(case hr=>first|(go_simp;done)|(go_simp;rfl));(case hp=>exact(Reps.none _ _));intro v103 w5 ho6 hb hg_ hnew_;clear hg_ hnew_;have HO104:=O.mk (Kd.R_lower ho6 (zz (by repeat(first|exact HB.out|apply J|apply L|apply I))));replace HB:=O.mk (zq (by repeat(first|exact HB.out|apply J|apply L|apply I)) hb);clear hb ho6)|((with_reducible refine gate_builtin (b:=.append) (xs:=#[.tmp 5,.tmp 6]) rfl ?_);at_builtin;refine Kd.R_append_rows k30 (w0:=w) w.heap.size rfl (.tmp 5) (.tmp 6) 39 30 (.agg #[(.string ⟨#[]⟩),(.int .i64 0),(.string ⟨#[]⟩),(.int .i64 0),(.int .i64 0),(.string ⟨#[]⟩),(.string ⟨#[]⟩)]) 88 rfl Tryz.underlying39 info30 rfl (by decide) (by omega) v103 ([]:List S30) l0 _ _ _ (fun _=>True) (fun _=>False) rfl rfl ?aO ?aR (fun _ _ h=>h) (fun _ h=>h.elim) ?aF ?aB ?aS ?aL ?_;(case aR=>repeat(first|exact(Kd.C_below HR0.out HB.out)|(with_reducible refine Kd.C_alloc ?_ _)|(with_reducible refine Kd.C_drewN ?_ _)|(with_reducible refine Kd.C_drew ?_)));(case aB=>exact(by repeat(first|exact HB.out|apply J|apply L|apply I)));(case aF=>exact(fun _ _=>trivial));(case aO=>exact(by solve_by_elim only[HO104.out,Kd.zk,Kd.zj,Kd.zv]));(case aS=>exact(zz (by repeat(first|exact HB.out|apply J|apply L|apply I))));(case aL=>have:=HL.out;simp;omega);intro v106 w7 ho hb hg hat;replace HB:=O.mk (hb);have HO107:=O.mk (ho);clear HO104;clear ho hb hg hat))
  go_ret
  exact⟨_,rfl,by(with_reducible repeat(first|apply Kd.zk|apply Kd.zj|apply Kd.zv));exact HO107.out,by repeat(first|exact HB.out|apply J|apply L|apply I)⟩
open Go.RowKit Go.Shelf Go.Proofs.YtnbbbjfjkhglhaaGreatDoorW.PrintWords Go.Proofs.YtnbbbjfjkhglhaaGreatDoorW.PrintLast Go.Proofs.YtnbbbjfjkhglhaaGreatDoorW.PrintMore
set_option maxRecDepth 100000
def itoaF (x:Nat):Nat:=if x=171 then 55 else if x=243 then 78 else if x=246 then 90 else if x=283 then 93 else if x=284 then 94 else if x=285 then 95 else if x=286 then 96 else if x=129 then 101 else if x=317 then 100 else if x=318 then 102 else if x=319 then 103 else if x=320 then 104 else if x=337 then 111 else if x=338 then 112 else x
def itoaT (x:Nat):Nat:=if x=3 then 3 else if x=9 then 9 else if x=2 then 2 else if x=4 then 4 else if x=171 then 120 else if x=0 then 0 else if x=53 then 81 else if x=37 then 34 else if x=5 then 5 else if x=173 then 123 else if x=212 then 129 else if x=51 then 106 else if x=20 then 20 else if x=213 then 130 else if x=46 then 83 else if x=232 then 163 else if x=233 then 164 else x
def itoaG (x:Nat):Nat:=if x=17 then 1 else if x=18 then 2 else if x=19 then 3 else x
def itoaRen:Ren:=⟨itoaF,itoaT,itoaG⟩
theorem itoaLays:LaysM.n171 Tryz.prog itoaRen where
 mixed:=by kernel_rfl
 f129:=Tryz.func101.trans (congrArg some (by kernel_rfl))
 f171:=Tryz.func55.trans (congrArg some (by kernel_rfl))
 f243:=Tryz.func78.trans (congrArg some (by kernel_rfl))
 f246:=Tryz.func90.trans (congrArg some (by kernel_rfl))
 f283:=Tryz.func93.trans (congrArg some (by kernel_rfl))
 f284:=Tryz.func94.trans (congrArg some (by kernel_rfl))
 f285:=Tryz.func95.trans (congrArg some (by kernel_rfl))
 f286:=Tryz.func96.trans (congrArg some (by kernel_rfl))
 f317:=Tryz.func100.trans (congrArg some (by kernel_rfl))
 f318:=Tryz.func102.trans (congrArg some (by kernel_rfl))
 f319:=Tryz.func103.trans (congrArg some (by kernel_rfl))
 f320:=Tryz.func104.trans (congrArg some (by kernel_rfl))
 f337:=Tryz.func111.trans (congrArg some (by kernel_rfl))
 f338:=Tryz.func112.trans (congrArg some (by kernel_rfl))
 t0:=Tryz.underlying0
 a0:=Tryz.isAgg0
 z0:=Tryz.sizeOf0
 v0:=Tryz.zeroValue0
 t2:=Tryz.underlying2
 a2:=Tryz.isAgg2
 z2:=Tryz.sizeOf2
 v2:=Tryz.zeroValue2
 t3:=Tryz.underlying3
 a3:=Tryz.isAgg3
 z3:=Tryz.sizeOf3
 v3:=Tryz.zeroValue3
 t4:=Tryz.underlying4
 a4:=Tryz.isAgg4
 z4:=Tryz.sizeOf4
 v4:=Tryz.zeroValue4
 t5:=Tryz.underlying5
 a5:=Tryz.isAgg5
 z5:=Tryz.sizeOf5
 v5:=Tryz.zeroValue5
 t9:=Tryz.underlying9
 a9:=Tryz.isAgg9
 z9:=Tryz.sizeOf9
 v9:=Tryz.zeroValue9
 t20:=Tryz.underlying20
 a20:=Tryz.isAgg20
 z20:=Tryz.sizeOf20
 v20:=Tryz.zeroValue20
 t37:=Tryz.underlying34
 a37:=Tryz.isAgg34
 z37:=Tryz.sizeOf34
 v37:=Tryz.zeroValue34
 t46:=Tryz.underlying83
 a46:=Tryz.isAgg83
 z46:=Tryz.sizeOf83
 v46:=Tryz.zeroValue83
 t51:=Tryz.underlying106
 a51:=Tryz.isAgg106
 z51:=Tryz.sizeOf106
 v51:=Tryz.zeroValue106
 t53:=Tryz.underlying81
 a53:=Tryz.isAgg81
 z53:=Tryz.sizeOf81
 v53:=Tryz.zeroValue81
 t171:=Tryz.underlying120
 a171:=Tryz.isAgg120
 z171:=Tryz.sizeOf120
 v171:=Tryz.zeroValue120
 t173:=Tryz.underlying123
 a173:=Tryz.isAgg123
 z173:=Tryz.sizeOf123
 v173:=Tryz.zeroValue123
 t212:=Tryz.underlying129
 a212:=Tryz.isAgg129
 z212:=Tryz.sizeOf129
 v212:=Tryz.zeroValue129
 t213:=Tryz.underlying130
 a213:=Tryz.isAgg130
 z213:=Tryz.sizeOf130
 t232:=Tryz.underlying163
 a232:=Tryz.isAgg163
 z232:=Tryz.sizeOf163
 v232:=Tryz.zeroValue163
 t233:=Tryz.underlying164
 a233:=Tryz.isAgg164
 z233:=Tryz.sizeOf164
 v233:=Tryz.zeroValue164
 g17:=by kernel_rfl
 g18:=by kernel_rfl
 g19:=by kernel_rfl
 i0:=by kernel_rfl
 i2:=by kernel_rfl
 i3:=by kernel_rfl
 i4:=by kernel_rfl
 i5:=by kernel_rfl
 i9:=by kernel_rfl
 i20:=by kernel_rfl
 i37:=by kernel_rfl
 i46:=by kernel_rfl
 i51:=by kernel_rfl
 i53:=by kernel_rfl
 i171:=by kernel_rfl
 i173:=by kernel_rfl
 i212:=by kernel_rfl
 i232:=by kernel_rfl
 i233:=by kernel_rfl
 m17:=by kernel_rfl
 m18:=by kernel_rfl
 m19:=by kernel_rfl
def PowW (w : World) : Prop := Lib.TabIs Tryz.prog w "internal/strconv.uint64pow10" .u64 Lib.pow10Tab
theorem tab_named : (Tryz.prog.globalNamed "internal/strconv.uint64pow10").isSome = true := by kernel_rfl
theorem PowW_below {w w':World} (h:PowW w) (hb:Below w.heap.size w w'):PowW w':=by
 obtain⟨g,hg⟩:=Option.isSome_iff_exists.1 tab_named;unfold PowW Lib.TabIs World.var? at h ⊢;rw[hg] at h ⊢;simp only[Option.bind_some] at h ⊢
 have hlt:g < w.heap.size:=by
  rcases Nat.lt_or_ge g w.heap.size with h'|h'
  ·exact h'
  ·rw[Array.getElem?_eq_none h'] at h;cases h
 rw[hb.block g hlt];exact h
def opWords:List ByteArray:=[⟨#[61,61]⟩,⟨#[60]⟩,⟨#[60,61]⟩,⟨#[105,110]⟩]
def OpsW (w:World):Prop:=∃ (a:Addr) (c:Nat),w.cell? ⟨0,0,none⟩ = some (.slice (some a) 4 c)∧∀ (i:Nat) (s:ByteArray),opWords[i]? = some s→w.cell? (a.add i)=some (.string s)
theorem OpsW_below {w w':World} (h:OpsW w) (hb:Below w.heap.size w w'):OpsW w':=by
 obtain⟨a,c,h1,h2⟩:=h;exact⟨a,c,(hb.cell (World.block_lt_of_cell? w _ h1)).trans h1,fun i s hi=>(hb.cell (World.block_lt_of_cell? w _ (h2 i s hi))).trans (h2 i s hi)⟩
def TabW (w:World):Prop:=PowW w∧OpsW w
theorem TabW_pow {w:World} (h:TabW w):PowW w:=h.1
theorem TabW_below {w w':World} (h:TabW w) (hb:Below w.heap.size w w'):TabW w':=⟨PowW_below h.1 hb,OpsW_below h.2 hb⟩
theorem TabW_drewN {w:World} (h:TabW w) (n:Nat):TabW (w.drewN n):=TabW_below h (L (Below.refl _ _) _)
theorem TabW_drew {w:World} (h:TabW w):TabW w.drew:=TabW_below h (below_drew (Below.refl _ _))
theorem TabW_alloc {w:World} (h:TabW w) (o:Obj):TabW (w.alloc o):=TabW_below h (J (Below.refl _ _) _)
def strconv_Itoa.f (n:Int):Option ByteArray:=if -9223372036854775808≤n∧n≤9223372036854775807 then some ⟨(Lib.itoa n).toArray⟩ else none
theorem strconv_Itoa.calls (a0:Int) (r:ByteArray) (w:World) (htab:TabW w) (h:strconv_Itoa.f a0=some r) :
  Calls Tryz.prog 55 #[.int .i64 a0] w fun e w'=>e=.returned (.string r)∧Below w.heap.size w w':=by
 unfold strconv_Itoa.f at h
 by_cases hr : -9223372036854775808≤a0∧a0≤9223372036854775807
 case neg=>rw[if_neg hr] at h;cases h
 rw[if_pos hr] at h;obtain rfl:=Option.some.inj h;refine(Any.strconv_Itoa itoaLays a0 hr.1 hr.2 w (TabW_pow htab)).mono ?_
 rintro e w' ⟨rfl,k,os,rfl⟩
 exact⟨rfl,Lib.below_grow _ w (Nat.le_refl _) k os⟩
def wv.f (a0:Int):Option (Bool):=if a0 ≥ 48 then(some (decide (a0≤57))) else(some false)
theorem wv.calls (a0:Int) (r:Bool) (w:World) (h:wv.f a0=some r) :
  Calls Tryz.prog 74 #[.int .u8 a0] w fun e w'=>e=.returned (.bool r)∧Drawn0 w w':=by
 have H:(if a0 ≥ 48 then(some (decide (a0≤57))) else(some false))=some r:=h;clear h
 by_cases c2:a0 ≥ 48
 ·rw[if_pos c2] at H;have c2b0:decide (48≤a0)=true:=decide_eq_true c2;clear c2;obtain rfl:=Option.some.inj H;go_enter Tryz.func74,Tryz.ntmps74;go_wp2;go_ret
  exact⟨by first|rfl|(simp;done)|(simp[*];done),by repeat(first|exact Drawn0.refl _|apply Drawn0.step)⟩
 ·rw[if_neg c2] at H;have c2b0:decide (48≤a0)=false:=decide_eq_false c2;clear c2;obtain rfl:=Option.some.inj H;go_enter Tryz.func74,Tryz.ntmps74;go_wp2;go_ret
  exact⟨by first|rfl|(simp;done)|(simp[*];done),by repeat(first|exact Drawn0.refl _|apply Drawn0.step)⟩
def xj.f (a0:Int):Option (Bool):=if a0 ≥ 97 then(if a0≤122 then(some true) else(if a0 ≥ 65 then(some (decide (a0≤90))) else(some false))) else(if a0 ≥ 65 then(some (decide (a0≤90))) else(some false))
theorem xj.calls (a0:Int) (r:Bool) (w:World) (h:xj.f a0=some r) :
  Calls Tryz.prog 89 #[.int .u8 a0] w fun e w'=>e=.returned (.bool r)∧Drawn0 w w':=by
 unfold xj.f at h;have H:=h;clear h
 by_cases c2:a0 ≥ 97
 ·rw[if_pos c2] at H;have c2b0:decide (97≤a0)=true:=decide_eq_true c2;clear c2
  by_cases c3:a0≤122
  ·rw[if_pos c3] at H;have c3b0:decide (a0≤122)=true:=decide_eq_true c3;clear c3;obtain rfl:=Option.some.inj H;go_enter Tryz.func89,Tryz.ntmps89;go_wp2;go_ret
   exact⟨by first|rfl|(simp;done)|(simp[*];done),by repeat(first|exact Drawn0.refl _|apply Drawn0.step)⟩
  ·rw[if_neg c3] at H;have c3b0:decide (a0≤122)=false:=decide_eq_false c3;clear c3
   by_cases c4:a0 ≥ 65
   ·rw[if_pos c4] at H;have c4b0:decide (65≤a0)=true:=decide_eq_true c4;clear c4;obtain rfl:=Option.some.inj H;go_enter Tryz.func89,Tryz.ntmps89;go_wp2;go_ret
    exact⟨by first|rfl|(simp;done)|(simp[*];done),by repeat(first|exact Drawn0.refl _|apply Drawn0.step)⟩
   ·rw[if_neg c4] at H;have c4b0:decide (65≤a0)=false:=decide_eq_false c4;clear c4;obtain rfl:=Option.some.inj H;go_enter Tryz.func89,Tryz.ntmps89;go_wp2;go_ret
    exact⟨by first|rfl|(simp;done)|(simp[*];done),by repeat(first|exact Drawn0.refl _|apply Drawn0.step)⟩
 ·rw[if_neg c2] at H;have c2b0:decide (97≤a0)=false:=decide_eq_false c2;clear c2
  by_cases c5:a0 ≥ 65
  ·rw[if_pos c5] at H;have c5b0:decide (65≤a0)=true:=decide_eq_true c5;clear c5;obtain rfl:=Option.some.inj H;go_enter Tryz.func89,Tryz.ntmps89;go_wp2;go_ret
   exact⟨by first|rfl|(simp;done)|(simp[*];done),by repeat(first|exact Drawn0.refl _|apply Drawn0.step)⟩
  ·rw[if_neg c5] at H;have c5b0:decide (65≤a0)=false:=decide_eq_false c5;clear c5;obtain rfl:=Option.some.inj H;go_enter Tryz.func89,Tryz.ntmps89;go_wp2;go_ret
   exact⟨by first|rfl|(simp;done)|(simp[*];done),by repeat(first|exact Drawn0.refl _|apply Drawn0.step)⟩
def xx.f (a0:Int):Option (Bool):=(xj.f a0).bind fun t101=>(if t101=true then(some true) else((wv.f a0).bind fun t102=>(if t102=true then(some true) else(some (a0 == 95)))))
theorem xx.calls (a0:Int) (r:Bool) (w:World) (h:xx.f a0=some r) :
  Calls Tryz.prog 75 #[.int .u8 a0] w fun e w'=>e=.returned (.bool r)∧Drawn0 w w':=by
 unfold xx.f at h;have H:=h;clear h;replace H:=jq8.mp H;obtain⟨t101,A20,H⟩:=H;try dsimp only at H
 have A2:=O.mk A20;clear A20
 by_cases c3:t101=true
 ·subst c3;have H1:(some true)=some r:=by rw[if_pos rfl] at H;exact H
  clear H;have H:=H1;clear H1;obtain rfl:=Option.some.inj H;go_enter Tryz.func75,Tryz.ntmps75;go_wp2_with (first|((with_reducible refine jq (f:=89) rfl ?_);refine goesL_ (some 4) rfl rfl Tryz.func89 (by kernel_rfl) rfl #[.int .u8 a0] rfl (by(try simp only[jq0,jq1,jq2]);first|done|rfl|(simp only[jq3,jq4];rfl)) ?_;(with_reducible refine(xj.calls a0 true _ A2.out).mono ?_);rintro e w' ⟨rfl,⟨nd,rfl⟩⟩;refine⟨_,rfl,?_⟩))
  go_ret
  exact⟨by first|rfl|(simp;done)|(simp[*];done),by repeat(first|exact Drawn0.refl _|apply Drawn0.step)⟩
 ·replace c3:=jq9.mpr c3;subst c3;have H1:((wv.f a0).bind fun t102=>(if t102=true then(some true) else(some (a0 == 95))))=some r:=by rw[if_neg (show ¬ (false=true) by decide)] at H;exact H
  clear H;have H:=H1;clear H1;replace H:=jq8.mp H;obtain⟨t102,A40,H⟩:=H;try dsimp only at H
  have A4:=O.mk A40;clear A40
  by_cases c5:t102=true
  ·subst c5;have H1:(some true)=some r:=by rw[if_pos rfl] at H;exact H
   clear H;have H:=H1;clear H1;obtain rfl:=Option.some.inj H;go_enter Tryz.func75,Tryz.ntmps75;go_wp2_with (first|((with_reducible refine jq (f:=89) rfl ?_);refine goesL_ (some 4) rfl rfl Tryz.func89 (by kernel_rfl) rfl #[.int .u8 a0] rfl (by(try simp only[jq0,jq1,jq2]);first|done|rfl|(simp only[jq3,jq4];rfl)) ?_;(with_reducible refine(xj.calls a0 false _ A2.out).mono ?_);rintro e w' ⟨rfl,⟨nd,rfl⟩⟩;refine⟨_,rfl,?_⟩)|(go_at_call 74;(with_reducible refine(wv.calls a0 true _ A4.out).mono ?_);rintro e w' ⟨rfl,⟨nd,rfl⟩⟩))
   go_ret
   exact⟨by first|rfl|(simp;done)|(simp[*];done),by repeat(first|exact Drawn0.refl _|apply Drawn0.step)⟩
  ·replace c5:=jq9.mpr c5;subst c5;have H1:(some (a0 == 95))=some r:=by rw[if_neg (show ¬ (false=true) by decide)] at H;exact H
   clear H;have H:=H1;clear H1;obtain rfl:=Option.some.inj H;go_enter Tryz.func75,Tryz.ntmps75;go_wp2_with (first|((with_reducible refine jq (f:=89) rfl ?_);refine goesL_ (some 4) rfl rfl Tryz.func89 (by kernel_rfl) rfl #[.int .u8 a0] rfl (by(try simp only[jq0,jq1,jq2]);first|done|rfl|(simp only[jq3,jq4];rfl)) ?_;(with_reducible refine(xj.calls a0 false _ A2.out).mono ?_);rintro e w' ⟨rfl,⟨nd,rfl⟩⟩;refine⟨_,rfl,?_⟩)|(go_at_call 74;(with_reducible refine(wv.calls a0 false _ A4.out).mono ?_);rintro e w' ⟨rfl,⟨nd,rfl⟩⟩))
   go_ret
   exact⟨by first|rfl|(simp;done)|(simp[*];done),by repeat(first|exact Drawn0.refl _|apply Drawn0.step)⟩
mutual
def wq.j0:Nat→ByteArray→Bool→Option (Bool)
 | 0,_,_=>none
 | k + 1,x0,x15=>if x15=true then(some false) else(wq.l0 k x0 (x0.size:Int) 0)
def wq.l0:Nat→ByteArray→Int→Int→Option (Bool)
 | 0,_,_,_=>none
 | k + 1,x0,x17,x18=>if x18 < x17 then(if 0≤x18 then(if x18 < (x0.size:Int) then((xx.f (bt x0 x18)).bind fun t102=>(if t102=true then(wq.l0 k x0 x17 (wrap64 (x18 + 1))) else(some false))) else(none)) else(none)) else(some true)
end
def wq.f (k:Nat) (a0:ByteArray):Option (Bool):=if a0.toList=([]:List UInt8) then(wq.j0 k a0 true) else(if (a0.size:Int) > 30 then(wq.j0 k a0 true) else(if 0 < (a0.size:Int) then((wv.f (bt a0 0)).bind fun t101=>(wq.j0 k a0 t101)) else(none)))
theorem wq.mono_l:∀ k,(∀ y0 y1,LeO (wq.j0 k y0 y1) (wq.j0 (k + 1) y0 y1))∧(∀ y0 y1 y2,LeO (wq.l0 k y0 y1 y2) (wq.l0 (k + 1) y0 y1 y2))
 | 0=>⟨fun _ _ r h=>by simp[wq.j0] at h,fun _ _ _ r h=>by simp[wq.l0] at h⟩
 | k + 1=>by
  obtain⟨ih0,ih1⟩:=wq.mono_l k;refine⟨?_,?_⟩
  ·intro y0 y1
   unfold wq.j0
   repeat' first
   | (with_reducible exact ih0 _ _)
   | (with_reducible exact ih1 _ _ _)
   | (with_reducible exact LeO.refl _)
   | (with_reducible exact LeO.none _)
   | (with_reducible refine LeO.ite ?_ ?_)
   | (with_reducible refine LeO.bind ?_ (fun _=>?_))
   | exact ih0 _ _
   | exact ih1 _ _ _
   | exact LeO.none _
   | refine LeO.ite ?_ ?_
   | refine LeO.bind ?_ (fun _=>?_)
  ·intro y0 y1 y2
   unfold wq.l0
   repeat' first
   | (with_reducible exact ih0 _ _)
   | (with_reducible exact ih1 _ _ _)
   | (with_reducible exact LeO.refl _)
   | (with_reducible exact LeO.none _)
   | (with_reducible refine LeO.ite ?_ ?_)
   | (with_reducible refine LeO.bind ?_ (fun _=>?_))
   | exact ih0 _ _
   | exact ih1 _ _ _
   | exact LeO.none _
   | refine LeO.ite ?_ ?_
   | refine LeO.bind ?_ (fun _=>?_)
theorem wq.mono:∀ a0 k,LeO (wq.f k a0) (wq.f (k + 1) a0):=by
 intro a0 k
 obtain⟨ih0,ih1⟩:=wq.mono_l k;unfold wq.f
 repeat' first
   | (with_reducible exact ih0 _ _)
   | (with_reducible exact ih1 _ _ _)
   | (with_reducible exact LeO.refl _)
   | (with_reducible exact LeO.none _)
   | (with_reducible refine LeO.ite ?_ ?_)
   | (with_reducible refine LeO.bind ?_ (fun _=>?_))
   | exact ih0 _ _
   | exact ih1 _ _ _
   | exact LeO.none _
   | refine LeO.ite ?_ ?_
   | refine LeO.bind ?_ (fun _=>?_)
theorem wq.calls (k:Nat) (a0:ByteArray) (r:Bool) (w:World) (h:wq.f k a0=some r) :
  Calls Tryz.prog 51 #[.string a0] w fun e w'=>e=.returned (.bool r)∧Drawn0 w w':=by
 unfold wq.f at h;have H:=h;clear h;have HC2:=O.mk H;clear H;go_enter Tryz.func51,Tryz.ntmps51;go_upto_region 1 with (fail)
 go_cut [15] (fun v15 wc=>∃ (kq:Nat) (x15_1:Bool),v15=.bool x15_1∧O (wq.j0 kq a0 x15_1=some r)∧O (kq≤k)∧Drawn0 w wc)
 case first =>
  have H:=HC2.out;clear HC2
  by_cases c3:a0.toList=([]:List UInt8)
  ·rw[if_pos c3] at H;have c3b0:(a0.toList == ([]:List UInt8))=true:=beq_iff_eq.mpr c3;have c3b1:(a0.toList != ([]:List UInt8))=false:=bne_eq_false_iff_eq.mpr c3;clear c3
   (first|rw[c3b0]|(simp only[i64_w,i32_w];rw[c3b0])|skip)
   have H':=O.mk H;clear H;go_wp2;go_meet
   case rel=>exact⟨_,(true),(by first|rfl|(simp;done)|(simp[*];done)|(generalize ByteArray.toList _=l_;cases l_ <;> first|rfl|(simp;done))),H',⟨by first|omega|exact Nat.le_refl _⟩,by repeat(first|exact Drawn0.refl _|apply Drawn0.step)⟩
  ·rw[if_neg c3] at H;have c3b0:(a0.toList == ([]:List UInt8))=false:=beq_eq_false_iff_ne.mpr c3;have c3b1:(a0.toList != ([]:List UInt8))=true:=bne_iff_ne.mpr c3
   (first|rw[c3b0]|(simp only[i64_w,i32_w];rw[c3b0])|skip)
   by_cases c4:(a0.size:Int) > 30
   ·rw[if_pos c4] at H;have c4b0:decide (30 < (a0.size:Int))=true:=decide_eq_true c4;have c4b1:decide (30 < a0.size)=true:=decide_eq_true (by omega);clear c4;have H':=O.mk H;clear H;go_wp2;go_meet
    case rel=>exact⟨_,(true),(by first|rfl|(simp;done)|(simp[*];done)|(generalize ByteArray.toList _=l_;cases l_ <;> first|rfl|(simp;done))),H',⟨by first|omega|exact Nat.le_refl _⟩,by repeat(first|exact Drawn0.refl _|apply Drawn0.step)⟩
   ·rw[if_neg c4] at H;have c4b0:decide (30 < (a0.size:Int))=false:=decide_eq_false c4;have c4b1:decide (30 < a0.size)=false:=decide_eq_false (by omega);clear c4
    by_cases c5 : 0 < (a0.size:Int)
    ·rw[if_pos c5] at H;have c5b0:decide (0 < (a0.size:Int))=true:=decide_eq_true c5;have c5b1:decide (0 < a0.size)=true:=decide_eq_true (by omega);clear c5;replace H:=jq8.mp H;obtain⟨t101,A70,H⟩:=H;replace H:(wq.j0 k a0 t101)=some r:=H;have A7:=O.mk A70;clear A70;have H':=O.mk H;clear H;have p6 : 0≤(0:Int):=(by omega);have q6 : 0 < a0.size:=(by have:(0:Int) < (a0.size:Int):=of_decide_eq_true (by assumption);omega);have hx6:∀ h : 0 < a0.size,((a0[0]'h).toNat:Int)=bt a0 0:=bt_at a0 0;clear p6;have qi6:(0 < (a0.size:Int))=True:=eq_true (of_decide_eq_true (by assumption));replace q6:=eq_true q6;go_wp2_with (first|(go_at_call 74;(with_reducible refine(wv.calls (bt a0 0) t101 _ A7.out).mono ?_);rintro e w' ⟨rfl,⟨nd,rfl⟩⟩))
     go_meet
     case rel=>exact⟨_,(t101),(by first|rfl|(simp;done)|(simp[*];done)|(generalize ByteArray.toList _=l_;cases l_ <;> first|rfl|(simp;done))),H',⟨by first|omega|exact Nat.le_refl _⟩,by repeat(first|exact Drawn0.refl _|apply Drawn0.step)⟩
    ·rw[if_neg c5] at H;exact absurd H (by simp)
 case rest =>
  clear HC2;try clear p2
  try clear c3
  try clear c3b0
  try clear c3b1
  try clear c4
  try clear c4b0
  try clear c4b1
  try clear c5
  try clear c5b0
  try clear c5b1
  try clear p6 p6
  try clear q6 q6
  try clear hx6
  try clear qi6
  obtain⟨kq,x15_1,rfl,HA,HJ1,⟨mc1,rfl⟩⟩:=hcut
  cases kq with
  | zero=>exact absurd HA.out (by simp[wq.j0])
  | succ kj1 =>
   have H:=HA.out;clear HA;simp only[wq.j0] at H
   by_cases c8:x15_1=true
   ·subst c8;have H1:(some false)=some r:=by rw[if_pos rfl] at H;exact H
    clear H;have H:=H1;clear H1;obtain rfl:=Option.some.inj H;go_wp2;go_ret
    exact⟨by first|rfl|(simp;done)|(simp[*];done),by repeat(first|exact Drawn0.refl _|apply Drawn0.step)⟩
   ·replace c8:=jq9.mpr c8;subst c8;have H1:(wq.l0 kj1 a0 (a0.size:Int) 0)=some r:=by rw[if_neg (show ¬ (false=true) by decide)] at H;exact H
    clear H;have H:=H1;clear H1;have H':=O.mk H;clear H;go_wp2
    go_loopg [18] kj1 (fun kq v18 w'=>∃ (x18_2:Int),v18=.int .i64 x18_2∧O (wq.l0 kq a0 (a0.size:Int) x18_2=some r)∧O (kq≤kj1)∧Drawn0 w w')
    case atStart=>exact⟨(0),(by first|rfl|(simp;done)|(simp[*];done)|(generalize ByteArray.toList _=l_;cases l_ <;> first|rfl|(simp;done))),H',⟨Nat.le_refl _⟩,by repeat(first|exact Drawn0.refl _|apply Drawn0.step)⟩
    case round =>
     clear H';try clear c1
     try clear p2 p2
     try clear c3
     try clear c3b0
     try clear c3b1
     try clear c4
     try clear c4b0
     try clear c4b1
     try clear c5
     try clear c5b0
     try clear c5b1
     try clear p6 p6
     try clear q6 q6
     try clear hx6
     try clear qi6
     try clear c8
     obtain⟨x18_2,rfl,HA,HK2,⟨m2,rfl⟩⟩:=hrel
     cases gk with
     | zero=>exact absurd HA.out (by simp[wq.l0])
     | succ k2 =>
      have H:=HA.out;clear HA;simp only[wq.l0] at H
      by_cases c9:x18_2 < (a0.size:Int)
      ·rw[if_pos c9] at H;have c9b0:decide (x18_2 < (a0.size:Int))=true:=decide_eq_true c9;clear c9
       by_cases c10 : 0≤x18_2
       ·rw[if_pos c10] at H;have c10b0:decide (0≤x18_2)=true:=decide_eq_true c10;clear c10
        by_cases c11:x18_2 < (a0.size:Int)
        ·rw[if_pos c11] at H;have c11b0:decide (x18_2 < (a0.size:Int))=true:=decide_eq_true c11;clear c11;replace H:=jq8.mp H;obtain⟨t102,A130,H⟩:=H;try dsimp only at H
         have A13:=O.mk A130;clear A130
         by_cases c14:t102=true
         ·subst c14;have H1:(wq.l0 k2 a0 (a0.size:Int) (wrap64 (x18_2 + 1)))=some r:=by rw[if_pos rfl] at H;exact H
          clear H;have H:=H1;clear H1;have H':=O.mk H;clear H;have p12 : 0≤(x18_2:Int):=of_decide_eq_true (by assumption);have q12:x18_2 < (a0.size:Int):=of_decide_eq_true (by assumption);have hx12:=bt_at a0 x18_2;replace p12:=eq_true p12;replace q12:=eq_true q12;go_wp2_with (first|((with_reducible refine jq (f:=75) rfl ?_);refine goesL_ (some 24) rfl rfl Tryz.func75 (by kernel_rfl) rfl #[.int .u8 (bt a0 x18_2)] rfl (by(try simp only[jq0,jq1,jq2]);first|done|rfl|(simp only[jq3,jq4];rfl)) ?_;(with_reducible refine(xx.calls (bt a0 x18_2) true _ A13.out).mono ?_);rintro e w' ⟨rfl,⟨nd,rfl⟩⟩;refine⟨_,rfl,?_⟩))
          go_roundg k2
          case measure=>have:=HJ1.out;have:=HK2.out;omega
          case rel=>exact⟨(wrap64 (x18_2 + 1)),(by first|rfl|(simp;done)|(simp[*];done)|(generalize ByteArray.toList _=l_;cases l_ <;> first|rfl|(simp;done))),H',⟨by have:=HJ1.out;have:=HK2.out;omega⟩,by repeat(first|exact Drawn0.refl _|apply Drawn0.step)⟩
         ·replace c14:=jq9.mpr c14;subst c14;have H1:(some false)=some r:=by rw[if_neg (show ¬ (false=true) by decide)] at H;exact H
          clear H;have H:=H1;clear H1;obtain rfl:=Option.some.inj H;have p12 : 0≤(x18_2:Int):=of_decide_eq_true (by assumption);have q12:x18_2 < (a0.size:Int):=of_decide_eq_true (by assumption);have hx12:=bt_at a0 x18_2;replace p12:=eq_true p12;replace q12:=eq_true q12;go_wp2_with (first|((with_reducible refine jq (f:=75) rfl ?_);refine goesL_ (some 24) rfl rfl Tryz.func75 (by kernel_rfl) rfl #[.int .u8 (bt a0 x18_2)] rfl (by(try simp only[jq0,jq1,jq2]);first|done|rfl|(simp only[jq3,jq4];rfl)) ?_;(with_reducible refine(xx.calls (bt a0 x18_2) false _ A13.out).mono ?_);rintro e w' ⟨rfl,⟨nd,rfl⟩⟩;refine⟨_,rfl,?_⟩))
          go_ret
          exact⟨by first|rfl|(simp;done)|(simp[*];done),by repeat(first|exact Drawn0.refl _|apply Drawn0.step)⟩
        ·rw[if_neg c11] at H;exact absurd H (by simp)
       ·rw[if_neg c10] at H;exact absurd H (by simp)
      ·rw[if_neg c9] at H;have c9b0:decide (x18_2 < (a0.size:Int))=false:=decide_eq_false c9;clear c9;obtain rfl:=Option.some.inj H;go_wp2;go_ret
       exact⟨by first|rfl|(simp;done)|(simp[*];done),by repeat(first|exact Drawn0.refl _|apply Drawn0.step)⟩
end Go.Proofs.YtnbbbjfjkhglhaaGreatDoor.Pr
namespace Go.Proofs.YtnbbbjfjkhglhaaGreatDoor.Pr
open Go.RowKit Go.Proofs.YtnbbbjfjkhglhaaGreatDoorW.PrintWords Go.Proofs.YtnbbbjfjkhglhaaGreatDoorW.PrintLast Go.Proofs.YtnbbbjfjkhglhaaGreatDoorW.PrintMore
attribute [local go_sem] max2_int min2_int max_two min_two max_three min_three max_four min_four
set_option linter.unusedVariables false
set_option linter.unusedSimpArgs false
mutual
def xv.j0:Nat→ByteArray→Bool→Option (Bool)
 | 0,_,_=>none
 | k + 1,x0,x17=>if x17=true then(some false) else(xv.l0 k x0 (x0.size:Int) 0)
def xv.l0:Nat→ByteArray→Int→Int→Option (Bool)
 | 0,_,_,_=>none
 | k + 1,x0,x19,x20=>if x20 < x19 then(if 0≤x20 then(if x20 < (x0.size:Int) then(if (bt x0 x20) < 32 then(some false) else(if (bt x0 x20) > 126 then(some false) else(xv.l0 k x0 x19 (wrap64 (x20 + 1))))) else(none)) else(none)) else(some true)
end
def xv.f (k:Nat) (a0:ByteArray) (a1:Int) (a2:Int):Option (Bool):=if (a0.size:Int) < a1 then(xv.j0 k a0 true) else(xv.j0 k a0 (decide ((a0.size:Int) > a2)))
theorem xv.mono_l:∀ k,(∀ y0 y1,LeO (xv.j0 k y0 y1) (xv.j0 (k + 1) y0 y1))∧(∀ y0 y1 y2,LeO (xv.l0 k y0 y1 y2) (xv.l0 (k + 1) y0 y1 y2))
 | 0=>⟨fun _ _ r h=>by simp[xv.j0] at h,fun _ _ _ r h=>by simp[xv.l0] at h⟩
 | k + 1=>by
  obtain⟨ih0,ih1⟩:=xv.mono_l k;refine⟨?_,?_⟩
  ·intro y0 y1
   unfold xv.j0
   repeat' first
   | (with_reducible exact ih0 _ _)
   | (with_reducible exact ih1 _ _ _)
   | (with_reducible exact LeO.refl _)
   | (with_reducible exact LeO.none _)
   | (with_reducible refine LeO.ite ?_ ?_)
   | (with_reducible refine LeO.bind ?_ (fun _=>?_))
   | exact ih0 _ _
   | exact ih1 _ _ _
   | exact LeO.none _
   | refine LeO.ite ?_ ?_
   | refine LeO.bind ?_ (fun _=>?_)
  ·intro y0 y1 y2
   unfold xv.l0
   repeat' first
   | (with_reducible exact ih0 _ _)
   | (with_reducible exact ih1 _ _ _)
   | (with_reducible exact LeO.refl _)
   | (with_reducible exact LeO.none _)
   | (with_reducible refine LeO.ite ?_ ?_)
   | (with_reducible refine LeO.bind ?_ (fun _=>?_))
   | exact ih0 _ _
   | exact ih1 _ _ _
   | exact LeO.none _
   | refine LeO.ite ?_ ?_
   | refine LeO.bind ?_ (fun _=>?_)
theorem xv.mono:∀ a0 a1 a2 k,LeO (xv.f k a0 a1 a2) (xv.f (k + 1) a0 a1 a2):=by
 intro a0 a1 a2 k
 obtain⟨ih0,ih1⟩:=xv.mono_l k;unfold xv.f
 repeat' first
   | (with_reducible exact ih0 _ _)
   | (with_reducible exact ih1 _ _ _)
   | (with_reducible exact LeO.refl _)
   | (with_reducible exact LeO.none _)
   | (with_reducible refine LeO.ite ?_ ?_)
   | (with_reducible refine LeO.bind ?_ (fun _=>?_))
   | exact ih0 _ _
   | exact ih1 _ _ _
   | exact LeO.none _
   | refine LeO.ite ?_ ?_
   | refine LeO.bind ?_ (fun _=>?_)
theorem xv.calls (k:Nat) (a0:ByteArray) (a1:Int) (a2:Int) (r:Bool) (w:World) (h:xv.f k a0 a1 a2=some r) :
  Calls Tryz.prog 76 #[.string a0,.int .i64 a1,.int .i64 a2] w fun e w'=>e=.returned (.bool r)∧Drawn0 w w':=by
 unfold xv.f at h;have H:=h;clear h;have HC4:=O.mk H;clear H;go_enter Tryz.func76,Tryz.ntmps76;go_upto_region 1 with (fail)
 go_cut [17] (fun v17 wc=>∃ (kq:Nat) (x17_3:Bool),v17=.bool x17_3∧O (xv.j0 kq a0 x17_3=some r)∧O (kq≤k)∧Drawn0 w wc)
 case first =>
  have H:=HC4.out;clear HC4
  by_cases c5:(a0.size:Int) < a1
  ·rw[if_pos c5] at H;have c5b0:decide ((a0.size:Int) < a1)=true:=decide_eq_true c5;clear c5
   (first|rw[c5b0]|(simp only[i64_w,i32_w];rw[c5b0])|skip)
   have H':=O.mk H;clear H;go_wp2;go_meet
   case rel=>exact⟨_,(true),(by first|rfl|(simp;done)|(simp[*];done)),H',⟨by first|omega|exact Nat.le_refl _⟩,by repeat(first|exact Drawn0.refl _|apply Drawn0.step)⟩
  ·rw[if_neg c5] at H;have c5b0:decide ((a0.size:Int) < a1)=false:=decide_eq_false c5;clear c5
   (first|rw[c5b0]|(simp only[i64_w,i32_w];rw[c5b0])|skip)
   have H':=O.mk H;clear H;go_wp2;go_meet
   case rel=>exact⟨_,(decide ((a0.size:Int) > a2)),(by first|rfl|(simp;done)|(simp[*];done)),H',⟨by first|omega|exact Nat.le_refl _⟩,by repeat(first|exact Drawn0.refl _|apply Drawn0.step)⟩
 case rest =>
  clear HC4;try clear p2
  try clear c5
  try clear c5b0
  obtain⟨kq,x17_3,rfl,HA,HJ3,⟨mc3,rfl⟩⟩:=hcut
  cases kq with
  | zero=>exact absurd HA.out (by simp[xv.j0])
  | succ kj3 =>
   have H:=HA.out;clear HA;simp only[xv.j0] at H
   by_cases c6:x17_3=true
   ·subst c6;have H1:(some false)=some r:=by rw[if_pos rfl] at H;exact H
    clear H;have H:=H1;clear H1;obtain rfl:=Option.some.inj H;go_wp2;go_ret
    exact⟨by first|rfl|(simp;done)|(simp[*];done),by repeat(first|exact Drawn0.refl _|apply Drawn0.step)⟩
   ·replace c6:=jq9.mpr c6;subst c6;have H1:(xv.l0 kj3 a0 (a0.size:Int) 0)=some r:=by rw[if_neg (show ¬ (false=true) by decide)] at H;exact H
    clear H;have H:=H1;clear H1;have H':=O.mk H;clear H;go_wp2
    go_loopg [20] kj3 (fun kq v20 w'=>∃ (x20_2:Int),v20=.int .i64 x20_2∧O (xv.l0 kq a0 (a0.size:Int) x20_2=some r)∧O (kq≤kj3)∧Drawn0 w w')
    case atStart=>exact⟨(0),(by first|rfl|(simp;done)|(simp[*];done)),H',⟨Nat.le_refl _⟩,by repeat(first|exact Drawn0.refl _|apply Drawn0.step)⟩
    case round =>
     clear H';try clear p2 p2
     try clear c3
     try clear c5
     try clear c5b0
     try clear c6
     obtain⟨x20_2,rfl,HA,HK2,⟨m2,rfl⟩⟩:=hrel
     cases gk with
     | zero=>exact absurd HA.out (by simp[xv.l0])
     | succ k2 =>
      have H:=HA.out;clear HA;simp only[xv.l0] at H
      by_cases c7:x20_2 < (a0.size:Int)
      ·rw[if_pos c7] at H;have c7b0:decide (x20_2 < (a0.size:Int))=true:=decide_eq_true c7;clear c7
       by_cases c8 : 0≤x20_2
       ·rw[if_pos c8] at H;have c8b0:decide (0≤x20_2)=true:=decide_eq_true c8;clear c8
        by_cases c9:x20_2 < (a0.size:Int)
        ·rw[if_pos c9] at H;have c9b0:decide (x20_2 < (a0.size:Int))=true:=decide_eq_true c9;clear c9
         by_cases c11:(bt a0 x20_2) < 32
         ·rw[if_pos c11] at H;have c11b0:decide ((bt a0 x20_2) < 32)=true:=decide_eq_true c11;clear c11;obtain rfl:=Option.some.inj H;have p10 : 0≤(x20_2:Int):=of_decide_eq_true (by assumption);have q10:x20_2 < (a0.size:Int):=of_decide_eq_true (by assumption);have hx10:=bt_at a0 x20_2;replace p10:=eq_true p10;replace q10:=eq_true q10;go_wp2;go_ret
          exact⟨by first|rfl|(simp;done)|(simp[*];done),by repeat(first|exact Drawn0.refl _|apply Drawn0.step)⟩
         ·rw[if_neg c11] at H;have c11b0:decide ((bt a0 x20_2) < 32)=false:=decide_eq_false c11;clear c11
          by_cases c13:(bt a0 x20_2) > 126
          ·rw[if_pos c13] at H;have c13b0:decide (126 < (bt a0 x20_2))=true:=decide_eq_true c13;clear c13;obtain rfl:=Option.some.inj H;have p10 : 0≤(x20_2:Int):=of_decide_eq_true (by assumption);have q10:x20_2 < (a0.size:Int):=of_decide_eq_true (by assumption);have hx10:=bt_at a0 x20_2;replace p10:=eq_true p10;replace q10:=eq_true q10;have p12 : 0≤(x20_2:Int):=of_decide_eq_true (by assumption);have q12:x20_2 < (a0.size:Int):=of_decide_eq_true (by assumption);have hx12:=bt_at a0 x20_2;replace p12:=eq_true p12;replace q12:=eq_true q12;go_wp2;go_ret
           exact⟨by first|rfl|(simp;done)|(simp[*];done),by repeat(first|exact Drawn0.refl _|apply Drawn0.step)⟩
          ·rw[if_neg c13] at H;have c13b0:decide (126 < (bt a0 x20_2))=false:=decide_eq_false c13;clear c13;have H':=O.mk H;clear H;have p10 : 0≤(x20_2:Int):=of_decide_eq_true (by assumption);have q10:x20_2 < (a0.size:Int):=of_decide_eq_true (by assumption);have hx10:=bt_at a0 x20_2;replace p10:=eq_true p10;replace q10:=eq_true q10;have p12 : 0≤(x20_2:Int):=of_decide_eq_true (by assumption);have q12:x20_2 < (a0.size:Int):=of_decide_eq_true (by assumption);have hx12:=bt_at a0 x20_2;replace p12:=eq_true p12;replace q12:=eq_true q12;go_wp2;go_roundg k2
           case measure=>have:=HJ3.out;have:=HK2.out;omega
           case rel=>exact⟨(wrap64 (x20_2 + 1)),(by first|rfl|(simp;done)|(simp[*];done)),H',⟨by have:=HJ3.out;have:=HK2.out;omega⟩,by repeat(first|exact Drawn0.refl _|apply Drawn0.step)⟩
        ·rw[if_neg c9] at H;exact absurd H (by simp)
       ·rw[if_neg c8] at H;exact absurd H (by simp)
      ·rw[if_neg c7] at H;have c7b0:decide (x20_2 < (a0.size:Int))=false:=decide_eq_false c7;clear c7;obtain rfl:=Option.some.inj H;go_wp2;go_ret
       exact⟨by first|rfl|(simp;done)|(simp[*];done),by repeat(first|exact Drawn0.refl _|apply Drawn0.step)⟩
end Go.Proofs.YtnbbbjfjkhglhaaGreatDoor.Pr
namespace Go.Proofs.YtnbbbjfjkhglhaaGreatDoor.Pr
open Go.RowKit Go.Proofs.YtnbbbjfjkhglhaaGreatDoorW.PrintWords Go.Proofs.YtnbbbjfjkhglhaaGreatDoorW.PrintLast Go.Proofs.YtnbbbjfjkhglhaaGreatDoorW.PrintMore
attribute [local go_sem] max2_int min2_int max_two min_two max_three min_three max_four min_four
set_option linter.unusedVariables false
set_option linter.unusedSimpArgs false
mutual
def vx.j0:Nat→Bool→Int→Int→ByteArray→ByteArray→Option (Bool)
 | 0,_,_,_,_,_=>none
 | k + 1,x3,x102000,x102001,x102002,x102003=>if x102000=1 then(if x3=true then(if x102001=0 then(some true) else(some (x102001 == 1))) else(some false)) else(if x102000=2 then(vx.j1 k x3 x102000 (x102000 == 2) x102000 x102001 x102002 x102003) else(vx.j1 k x3 x102000 (x102000 == 5) x102000 x102001 x102002 x102003))
def vx.j1:Nat→Bool→Int→Bool→Int→Int→ByteArray→ByteArray→Option (Bool)
 | 0,_,_,_,_,_,_,_=>none
 | k + 1,x3,x15,x29,x102000,x102001,x102002,x102003=>if x29=true then(some x3) else(if x15=3 then(if x102001=0 then(if x102003.toList=([]:List UInt8) then((xv.f k x102002 0 200).bind fun t102=>(some t102)) else(some false)) else(some false)) else(if x15=4 then(if x102001=0 then((wq.f k x102003).bind fun t103=>(if t103=true then((xv.f k x102002 1 200).bind fun t104=>(some t104)) else(some false))) else(some false)) else(if x15=6 then(if x3=true then(if x102001 < 0 then(some false) else(if (Int.tmod x102001 64)≤32 then(if (wrap64 (Int.tdiv x102001 64)) < 4294967296 then(if 0≤(wrap64 (32 - (Int.tmod x102001 64))) then(if (shl .i64 1 (wrap64 (32 - (Int.tmod x102001 64))))=0 then(none) else(some ((Int.tmod (wrap64 (Int.tdiv x102001 64)) (shl .i64 1 (wrap64 (32 - (Int.tmod x102001 64))))) == 0))) else(none)) else(some false)) else(some false))) else(some false)) else(if x15=7 then(if x3=true then(if x102001 ≥ (-100000000000) then(some (decide (x102001≤100000000000))) else(some false)) else(some false)) else(some false)))))
end
def vx.f (k:Nat) (a0_0:Int) (a0_1:Int) (a0_2:ByteArray) (a0_3:ByteArray):Option (Bool):=if a0_2.toList=([]:List UInt8) then(vx.j0 k (a0_3.toList == ([]:List UInt8)) a0_0 a0_1 a0_2 a0_3) else(vx.j0 k false a0_0 a0_1 a0_2 a0_3)
theorem vx.mono_l:∀ k,(∀ y0 y1 y2 y3 y4,LeO (vx.j0 k y0 y1 y2 y3 y4) (vx.j0 (k + 1) y0 y1 y2 y3 y4))∧(∀ y0 y1 y2 y3 y4 y5 y6,LeO (vx.j1 k y0 y1 y2 y3 y4 y5 y6) (vx.j1 (k + 1) y0 y1 y2 y3 y4 y5 y6))
 | 0=>⟨fun _ _ _ _ _ r h=>by simp[vx.j0] at h,fun _ _ _ _ _ _ _ r h=>by simp[vx.j1] at h⟩
 | k + 1=>by
  obtain⟨ih0,ih1⟩:=vx.mono_l k;refine⟨?_,?_⟩
  ·intro y0 y1 y2 y3 y4
   unfold vx.j0
   repeat' first
   | (with_reducible exact ih0 _ _ _ _ _)
   | (with_reducible exact ih1 _ _ _ _ _ _ _)
   | (with_reducible exact wq.mono _ _)
   | (with_reducible exact xv.mono _ _ _ _)
   | (with_reducible exact LeO.refl _)
   | (with_reducible exact LeO.none _)
   | (with_reducible refine LeO.ite ?_ ?_)
   | (with_reducible refine LeO.bind ?_ (fun _=>?_))
   | exact ih0 _ _ _ _ _
   | exact ih1 _ _ _ _ _ _ _
   | exact wq.mono _ _
   | exact xv.mono _ _ _ _
   | exact LeO.none _
   | refine LeO.ite ?_ ?_
   | refine LeO.bind ?_ (fun _=>?_)
  ·intro y0 y1 y2 y3 y4 y5 y6
   unfold vx.j1
   repeat' first
   | (with_reducible exact ih0 _ _ _ _ _)
   | (with_reducible exact ih1 _ _ _ _ _ _ _)
   | (with_reducible exact wq.mono _ _)
   | (with_reducible exact xv.mono _ _ _ _)
   | (with_reducible exact LeO.refl _)
   | (with_reducible exact LeO.none _)
   | (with_reducible refine LeO.ite ?_ ?_)
   | (with_reducible refine LeO.bind ?_ (fun _=>?_))
   | exact ih0 _ _ _ _ _
   | exact ih1 _ _ _ _ _ _ _
   | exact wq.mono _ _
   | exact xv.mono _ _ _ _
   | exact LeO.none _
   | refine LeO.ite ?_ ?_
   | refine LeO.bind ?_ (fun _=>?_)
theorem vx.mono:∀ a0 a1 a2 a3 k,LeO (vx.f k a0 a1 a2 a3) (vx.f (k + 1) a0 a1 a2 a3):=by
 intro a0 a1 a2 a3 k
 obtain⟨ih0,ih1⟩:=vx.mono_l k;unfold vx.f
 repeat' first
   | (with_reducible exact ih0 _ _ _ _ _)
   | (with_reducible exact ih1 _ _ _ _ _ _ _)
   | (with_reducible exact wq.mono _ _)
   | (with_reducible exact xv.mono _ _ _ _)
   | (with_reducible exact LeO.refl _)
   | (with_reducible exact LeO.none _)
   | (with_reducible refine LeO.ite ?_ ?_)
   | (with_reducible refine LeO.bind ?_ (fun _=>?_))
   | exact ih0 _ _ _ _ _
   | exact ih1 _ _ _ _ _ _ _
   | exact wq.mono _ _
   | exact xv.mono _ _ _ _
   | exact LeO.none _
   | refine LeO.ite ?_ ?_
   | refine LeO.bind ?_ (fun _=>?_)
theorem vx.calls (k:Nat) (a0_0:Int) (a0_1:Int) (a0_2:ByteArray) (a0_3:ByteArray) (r:Bool) (w:World) (h:vx.f k a0_0 a0_1 a0_2 a0_3=some r) :
  Calls Tryz.prog 52 #[.agg #[.int .i64 a0_0,.int .i64 a0_1,.string a0_2,.string a0_3]] w fun e w'=>e=.returned (.bool r)∧Below w.heap.size w w':=by
 have hu28:=Tryz.underlying28;have HB:=O.mk (Below.refl w.heap.size w);unfold vx.f at h;have H:=h;clear h;have HC2:=O.mk H;clear H;go_enter Tryz.func52,Tryz.ntmps52;go_upto_region 1 with (first|((with_reducible refine gate_dst (N:=1) rfl ?_);refine box_event ?hg (N:=1) ?hd (cs:=#[.int .i64 a0_0,.int .i64 a0_1,.string a0_2,.string a0_3]) (t:=28) ?hr ?_;(case hd=>rfl);(case hg=>rfl);(case hr=>first|(go_simp;done)|(go_simp;rfl));intro gb101 hg w3 hbox hb;have BK101:=O.mk (hbox);have GW101:=O.mk ((by rw[hg];exact(zz (by solve_by_elim only[HB.out,J,L,I])):w.heap.size≤gb101));have GE101:=GW101;replace HB:=O.mk (zq (by solve_by_elim only[HB.out,J,L,I]) hb);clear hb hbox hg))
 repeat(go_quiet (first|((with_reducible refine gate_dst (N:=1) rfl ?_);refine box_event ?hg (N:=1) ?hd (cs:=#[.int .i64 a0_0,.int .i64 a0_1,.string a0_2,.string a0_3]) (t:=28) ?hr ?_;(case hd=>rfl);(case hg=>rfl);(case hr=>first|(go_simp;done)|(go_simp;rfl));intro gb101 hg w3 hbox hb;have BK101:=O.mk (hbox);have GW101:=O.mk ((by rw[hg];exact(zz (by solve_by_elim only[HB.out,J,L,I])):w.heap.size≤gb101));have GE101:=GW101;replace HB:=O.mk (zq (by solve_by_elim only[HB.out,J,L,I]) hb);clear hb hbox hg));go_upto_region 1 with (first|((with_reducible refine gate_dst (N:=1) rfl ?_);refine box_event ?hg (N:=1) ?hd (cs:=#[.int .i64 a0_0,.int .i64 a0_1,.string a0_2,.string a0_3]) (t:=28) ?hr ?_;(case hd=>rfl);(case hg=>rfl);(case hr=>first|(go_simp;done)|(go_simp;rfl));intro gb101 hg w3 hbox hb;have n0_:=O.mk (zq (by solve_by_elim only[HB.out,J,L,I]) hb);have n1_:=O.mk (hbox);have n2_:=O.mk ((by rw[hg];exact(zz (by solve_by_elim only[HB.out,J,L,I])):w.heap.size≤gb101));have n3_:=O.mk ((by rw[hg];exact(zz (by solve_by_elim only[HB.out,J,L,I])):w.heap.size≤gb101));clear HB;have HB:=n0_;have BK101:=n1_;have GW101:=n2_;have GE101:=n3_;clear n0_ n1_ n2_ n3_;clear hb hbox hg)))
 (try simp only[Act.put,jq5,jq6,jq7])
 go_cut [3] (fun v3 wc=>∃ (kq:Nat) (x3_1:Bool),v3=.bool x3_1∧O (vx.j0 kq x3_1 a0_0 a0_1 a0_2 a0_3=some r)∧O (kq≤k)∧O (wc.heap[gb101]? = some (.cells #[.int .i64 a0_0,.int .i64 a0_1,.string a0_2,.string a0_3] 28 (0,0)))∧O (Below w.heap.size w wc))
 case first =>
  have H:=HC2.out;clear HC2
  by_cases c4:a0_2.toList=([]:List UInt8)
  ·rw[if_pos c4] at H;have c4b0:(a0_2.toList == ([]:List UInt8))=true:=beq_iff_eq.mpr c4;have c4b1:(a0_2.toList != ([]:List UInt8))=false:=bne_eq_false_iff_eq.mpr c4;clear c4
   (first|rw[c4b0]|(simp only[i64_w,i32_w];rw[c4b0])|skip)
   have H':=O.mk H;clear H;obtain⟨y5_0,y5_1,y5_2,y5_3,z5_0,z5_1,z5_2,z5_3⟩:=bx4f BK101.out;go_wp2
   repeat(go_quiet (fail);try go_wp2)
   go_meet
   case rel=>exact⟨_,((a0_3.toList == ([]:List UInt8))),(by first|rfl|(simp;done)|(simp[*];done)|(generalize ByteArray.toList _=l_;cases l_ <;> first|rfl|(simp;done))),H',⟨by first|omega|exact Nat.le_refl _⟩,⟨by(with_reducible repeat(first|refine qv ?_ _|refine qw ?_|refine qk ?_ _));exact BK101.out⟩,⟨by solve_by_elim (maxDepth:=20) only[HB.out,J,L,I,qj,GE101.out]⟩⟩
  ·rw[if_neg c4] at H;have c4b0:(a0_2.toList == ([]:List UInt8))=false:=beq_eq_false_iff_ne.mpr c4;have c4b1:(a0_2.toList != ([]:List UInt8))=true:=bne_iff_ne.mpr c4
   (first|rw[c4b0]|(simp only[i64_w,i32_w];rw[c4b0])|skip)
   have H':=O.mk H;clear H;obtain⟨y6_0,y6_1,y6_2,y6_3,z6_0,z6_1,z6_2,z6_3⟩:=bx4f BK101.out;go_wp2
   repeat(go_quiet (fail);try go_wp2)
   go_meet
   case rel=>exact⟨_,(false),(by first|rfl|(simp;done)|(simp[*];done)|(generalize ByteArray.toList _=l_;cases l_ <;> first|rfl|(simp;done))),H',⟨by first|omega|exact Nat.le_refl _⟩,⟨by(with_reducible repeat(first|refine qv ?_ _|refine qw ?_|refine qk ?_ _));exact BK101.out⟩,⟨by solve_by_elim (maxDepth:=20) only[HB.out,J,L,I,qj,GE101.out]⟩⟩
 case rest =>
  clear HC2;try clear p2
  try clear c4
  try clear c4b0
  try clear c4b1
  try clear c5
  try clear y5_0 y5_1 y5_2 y5_3 z5_0 z5_1 z5_2 z5_3
  try clear y6_0 y6_1 y6_2 y6_3 z6_0 z6_1 z6_2 z6_3
  obtain⟨kq,x3_1,rfl,HA,HJ1,BK101,HB⟩:=hcut
  cases kq with
  | zero=>exact absurd HA.out (by simp[vx.j0])
  | succ kj1 =>
   have H:=HA.out;clear HA;simp only[vx.j0] at H
   by_cases c7:a0_0=1
   ·rw[if_pos c7] at H;have c7b0:(a0_0 == 1)=true:=beq_iff_eq.mpr c7;have c7b1:(a0_0 != 1)=false:=bne_eq_false_iff_eq.mpr c7;clear c7
    by_cases c8:x3_1=true
    ·subst c8;have H1:(if a0_1=0 then(some true) else(some (a0_1 == 1)))=some r:=by rw[if_pos rfl] at H;exact H
     clear H;have H:=H1;clear H1
     by_cases c9:a0_1=0
     ·rw[if_pos c9] at H;have c9b0:(a0_1 == 0)=true:=beq_iff_eq.mpr c9;have c9b1:(a0_1 != 0)=false:=bne_eq_false_iff_eq.mpr c9;clear c9;obtain rfl:=Option.some.inj H;obtain⟨y10_0,y10_1,y10_2,y10_3,z10_0,z10_1,z10_2,z10_3⟩:=bx4f BK101.out;go_wp2
      repeat(go_quiet (fail);try go_wp2)
      go_ret
      exact⟨by first|rfl|(simp[*,zx,zw] <;> rfl),by solve_by_elim (maxDepth:=20) only[HB.out,J,L,I,qj,GE101.out]⟩
     ·rw[if_neg c9] at H;have c9b0:(a0_1 == 0)=false:=beq_eq_false_iff_ne.mpr c9;have c9b1:(a0_1 != 0)=true:=bne_iff_ne.mpr c9;obtain rfl:=Option.some.inj H;obtain⟨y11_0,y11_1,y11_2,y11_3,z11_0,z11_1,z11_2,z11_3⟩:=bx4f BK101.out;go_wp2
      repeat(go_quiet (fail);try go_wp2)
      go_ret
      exact⟨by first|rfl|(simp[*,zx,zw] <;> rfl),by solve_by_elim (maxDepth:=20) only[HB.out,J,L,I,qj,GE101.out]⟩
    ·replace c8:=jq9.mpr c8;subst c8;have H1:(some false)=some r:=by rw[if_neg (show ¬ (false=true) by decide)] at H;exact H
     clear H;have H:=H1;clear H1;obtain rfl:=Option.some.inj H;obtain⟨y12_0,y12_1,y12_2,y12_3,z12_0,z12_1,z12_2,z12_3⟩:=bx4f BK101.out;go_wp2
     repeat(go_quiet (fail);try go_wp2)
     go_ret
     exact⟨by first|rfl|(simp[*,zx,zw] <;> rfl),by solve_by_elim (maxDepth:=20) only[HB.out,J,L,I,qj,GE101.out]⟩
   ·rw[if_neg c7] at H;have c7b0:(a0_0 == 1)=false:=beq_eq_false_iff_ne.mpr c7;have c7b1:(a0_0 != 1)=true:=bne_iff_ne.mpr c7;have HC13:=O.mk H;clear H;obtain⟨y14_0,y14_1,y14_2,y14_3,z14_0,z14_1,z14_2,z14_3⟩:=bx4f BK101.out;go_upto_if 29 with (fail)
    repeat(go_quiet (fail);go_upto_if 29 with (fail))
    go_cut [29] (fun v29 wc=>∃ (kq:Nat) (x29_12:Bool),v29=.bool x29_12∧O (vx.j1 kq x3_1 a0_0 x29_12 a0_0 a0_1 a0_2 a0_3=some r)∧O (kq≤kj1)∧O (wc.heap[gb101]? = some (.cells #[.int .i64 a0_0,.int .i64 a0_1,.string a0_2,.string a0_3] 28 (0,0)))∧O (Below w.heap.size w wc))
    case first =>
     have H:=HC13.out;clear HC13
     by_cases c15:a0_0=2
     ·rw[if_pos c15] at H;have c15b0:(a0_0 == 2)=true:=beq_iff_eq.mpr c15;have c15b1:(a0_0 != 2)=false:=bne_eq_false_iff_eq.mpr c15;clear c15
      (first|rw[c15b0]|(simp only[i64_w,i32_w];rw[c15b0])|skip)
      have H':=O.mk H;clear H;go_wp2
      repeat(go_quiet (fail);try go_wp2)
      go_meet
      case rel=>exact⟨_,((a0_0 == 2)),(by first|rfl|(simp;done)|(simp[*];done)|(generalize ByteArray.toList _=l_;cases l_ <;> first|rfl|(simp;done))),H',⟨by have:=HJ1.out;first|omega|exact Nat.le_refl _⟩,⟨by(with_reducible repeat(first|refine qv ?_ _|refine qw ?_|refine qk ?_ _));exact BK101.out⟩,⟨by solve_by_elim (maxDepth:=20) only[HB.out,J,L,I,qj,GE101.out]⟩⟩
     ·rw[if_neg c15] at H;have c15b0:(a0_0 == 2)=false:=beq_eq_false_iff_ne.mpr c15;have c15b1:(a0_0 != 2)=true:=bne_iff_ne.mpr c15
      (first|rw[c15b0]|(simp only[i64_w,i32_w];rw[c15b0])|skip)
      have H':=O.mk H;clear H;go_wp2
      repeat(go_quiet (fail);try go_wp2)
      go_meet
      case rel=>exact⟨_,((a0_0 == 5)),(by first|rfl|(simp;done)|(simp[*];done)|(generalize ByteArray.toList _=l_;cases l_ <;> first|rfl|(simp;done))),H',⟨by have:=HJ1.out;first|omega|exact Nat.le_refl _⟩,⟨by(with_reducible repeat(first|refine qv ?_ _|refine qw ?_|refine qk ?_ _));exact BK101.out⟩,⟨by solve_by_elim (maxDepth:=20) only[HB.out,J,L,I,qj,GE101.out]⟩⟩
    case rest =>
     clear HC13;try clear c1
     try clear p2 p2
     try clear c4
     try clear c4b0
     try clear c4b1
     try clear c5
     try clear c7
     try clear c7b0
     try clear c7b1
     try clear c8
     try clear c9
     try clear c9b0
     try clear c9b1
     try clear c15
     try clear c15b0
     try clear c15b1
     try clear y10_0 y10_1 y10_2 y10_3 z10_0 z10_1 z10_2 z10_3
     try clear y11_0 y11_1 y11_2 y11_3 z11_0 z11_1 z11_2 z11_3
     try clear y12_0 y12_1 y12_2 y12_3 z12_0 z12_1 z12_2 z12_3
     try clear y14_0 y14_1 y14_2 y14_3 z14_0 z14_1 z14_2 z14_3
     try clear y5_0 y5_1 y5_2 y5_3 z5_0 z5_1 z5_2 z5_3
     try clear y6_0 y6_1 y6_2 y6_3 z6_0 z6_1 z6_2 z6_3
     obtain⟨kq,x29_12,rfl,HA,HJ12,BK101,HB⟩:=hcut
     cases kq with
     | zero=>exact absurd HA.out (by simp[vx.j1])
     | succ kj12 =>
      have H:=HA.out;clear HA;simp only[vx.j1] at H
      by_cases c16:x29_12=true
      ·subst c16;have H1:(some x3_1)=some r:=by rw[if_pos rfl] at H;exact H
       clear H;have H:=H1;clear H1;obtain rfl:=Option.some.inj H;go_wp2
       repeat(go_quiet (fail);try go_wp2)
       go_ret
       exact⟨by first|rfl|(simp[*,zx,zw] <;> rfl),by solve_by_elim (maxDepth:=20) only[HB.out,J,L,I,qj,GE101.out]⟩
      ·replace c16:=jq9.mpr c16;subst c16;have H1:(if a0_0=3 then(if a0_1=0 then(if a0_3.toList=([]:List UInt8) then((xv.f kj12 a0_2 0 200).bind fun t102=>(some t102)) else(some false)) else(some false)) else(if a0_0=4 then(if a0_1=0 then((wq.f kj12 a0_3).bind fun t103=>(if t103=true then((xv.f kj12 a0_2 1 200).bind fun t104=>(some t104)) else(some false))) else(some false)) else(if a0_0=6 then(if x3_1=true then(if a0_1 < 0 then(some false) else(if (Int.tmod a0_1 64)≤32 then(if (wrap64 (Int.tdiv a0_1 64)) < 4294967296 then(if 0≤(wrap64 (32 - (Int.tmod a0_1 64))) then(if (shl .i64 1 (wrap64 (32 - (Int.tmod a0_1 64))))=0 then(none) else(some ((Int.tmod (wrap64 (Int.tdiv a0_1 64)) (shl .i64 1 (wrap64 (32 - (Int.tmod a0_1 64))))) == 0))) else(none)) else(some false)) else(some false))) else(some false)) else(if a0_0=7 then(if x3_1=true then(if a0_1 ≥ (-100000000000) then(some (decide (a0_1≤100000000000))) else(some false)) else(some false)) else(some false)))))=some r:=by rw[if_neg (show ¬ (false=true) by decide)] at H;exact H
       clear H;have H:=H1;clear H1
       by_cases c17:a0_0=3
       ·rw[if_pos c17] at H;have c17b0:(a0_0 == 3)=true:=beq_iff_eq.mpr c17;have c17b1:(a0_0 != 3)=false:=bne_eq_false_iff_eq.mpr c17;clear c17
        by_cases c18:a0_1=0
        ·rw[if_pos c18] at H;have c18b0:(a0_1 == 0)=true:=beq_iff_eq.mpr c18;have c18b1:(a0_1 != 0)=false:=bne_eq_false_iff_eq.mpr c18;clear c18
         by_cases c19:a0_3.toList=([]:List UInt8)
         ·rw[if_pos c19] at H;have c19b0:(a0_3.toList == ([]:List UInt8))=true:=beq_iff_eq.mpr c19;have c19b1:(a0_3.toList != ([]:List UInt8))=false:=bne_eq_false_iff_eq.mpr c19;clear c19;replace H:=jq8.mp H;obtain⟨t102,A200,H⟩:=H;replace H:(some t102)=some r:=H;have A20:=O.mk A200;clear A200;obtain rfl:=Option.some.inj H;obtain⟨y21_0,y21_1,y21_2,y21_3,z21_0,z21_1,z21_2,z21_3⟩:=bx4f BK101.out;go_wp2_with (first|(go_at_call 76;(with_reducible refine(xv.calls kj12 a0_2 0 200 t102 _ A20.out).mono ?_);rintro e w' ⟨rfl,⟨nd,rfl⟩⟩;(try first|exact⟨rfl,_,World.drewN_drewN _ _ _⟩|exact⟨rfl,_,Eq.trans (World.drewN_drewN _ _ _) (congrArg (World.drewN _) (Nat.add_assoc _ _ _))⟩)))
          repeat(go_quiet (first|(go_at_call 76;(with_reducible refine(xv.calls kj12 a0_2 0 200 t102 _ A20.out).mono ?_);rintro e w' ⟨rfl,⟨nd,rfl⟩⟩;(try first|exact⟨rfl,_,World.drewN_drewN _ _ _⟩|exact⟨rfl,_,Eq.trans (World.drewN_drewN _ _ _) (congrArg (World.drewN _) (Nat.add_assoc _ _ _))⟩)));try go_wp2_with (first|(go_at_call 76;(with_reducible refine(xv.calls kj12 a0_2 0 200 t102 _ A20.out).mono ?_);rintro e w' ⟨rfl,⟨nd,rfl⟩⟩;(try first|exact⟨rfl,_,World.drewN_drewN _ _ _⟩|exact⟨rfl,_,Eq.trans (World.drewN_drewN _ _ _) (congrArg (World.drewN _) (Nat.add_assoc _ _ _))⟩))))
          go_ret
          exact⟨by first|rfl|(simp[*,zx,zw] <;> rfl),by solve_by_elim (maxDepth:=20) only[HB.out,J,L,I,qj,GE101.out]⟩
         ·rw[if_neg c19] at H;have c19b0:(a0_3.toList == ([]:List UInt8))=false:=beq_eq_false_iff_ne.mpr c19;have c19b1:(a0_3.toList != ([]:List UInt8))=true:=bne_iff_ne.mpr c19;obtain rfl:=Option.some.inj H;obtain⟨y22_0,y22_1,y22_2,y22_3,z22_0,z22_1,z22_2,z22_3⟩:=bx4f BK101.out;go_wp2
          repeat(go_quiet (fail);try go_wp2)
          go_ret
          exact⟨by first|rfl|(simp[*,zx,zw] <;> rfl),by solve_by_elim (maxDepth:=20) only[HB.out,J,L,I,qj,GE101.out]⟩
        ·rw[if_neg c18] at H;have c18b0:(a0_1 == 0)=false:=beq_eq_false_iff_ne.mpr c18;have c18b1:(a0_1 != 0)=true:=bne_iff_ne.mpr c18;obtain rfl:=Option.some.inj H;obtain⟨y23_0,y23_1,y23_2,y23_3,z23_0,z23_1,z23_2,z23_3⟩:=bx4f BK101.out;go_wp2
         repeat(go_quiet (fail);try go_wp2)
         go_ret
         exact⟨by first|rfl|(simp[*,zx,zw] <;> rfl),by solve_by_elim (maxDepth:=20) only[HB.out,J,L,I,qj,GE101.out]⟩
       ·rw[if_neg c17] at H;have c17b0:(a0_0 == 3)=false:=beq_eq_false_iff_ne.mpr c17;have c17b1:(a0_0 != 3)=true:=bne_iff_ne.mpr c17
        by_cases c24:a0_0=4
        ·rw[if_pos c24] at H;have c24b0:(a0_0 == 4)=true:=beq_iff_eq.mpr c24;have c24b1:(a0_0 != 4)=false:=bne_eq_false_iff_eq.mpr c24;clear c24
         by_cases c25:a0_1=0
         ·rw[if_pos c25] at H;have c25b0:(a0_1 == 0)=true:=beq_iff_eq.mpr c25;have c25b1:(a0_1 != 0)=false:=bne_eq_false_iff_eq.mpr c25;clear c25;replace H:=jq8.mp H;obtain⟨t103,A260,H⟩:=H;try dsimp only at H
          have A26:=O.mk A260;clear A260
          by_cases c27:t103=true
          ·subst c27;have H1:((xv.f kj12 a0_2 1 200).bind fun t104=>(some t104))=some r:=by rw[if_pos rfl] at H;exact H
           clear H;have H:=H1;clear H1;replace H:=jq8.mp H;obtain⟨t104,A280,H⟩:=H;replace H:(some t104)=some r:=H;have A28:=O.mk A280;clear A280;obtain rfl:=Option.some.inj H;obtain⟨y29_0,y29_1,y29_2,y29_3,z29_0,z29_1,z29_2,z29_3⟩:=bx4f BK101.out;go_wp2_with (first|(go_at_call 51;(with_reducible refine(wq.calls kj12 a0_3 true _ A26.out).mono ?_);rintro e w' ⟨rfl,⟨nd,rfl⟩⟩;(try first|exact⟨rfl,_,World.drewN_drewN _ _ _⟩|exact⟨rfl,_,Eq.trans (World.drewN_drewN _ _ _) (congrArg (World.drewN _) (Nat.add_assoc _ _ _))⟩))|(go_at_call 76;(with_reducible refine(xv.calls kj12 a0_2 1 200 t104 _ A28.out).mono ?_);rintro e w' ⟨rfl,⟨nd,rfl⟩⟩;(try first|exact⟨rfl,_,World.drewN_drewN _ _ _⟩|exact⟨rfl,_,Eq.trans (World.drewN_drewN _ _ _) (congrArg (World.drewN _) (Nat.add_assoc _ _ _))⟩)))
           repeat(go_quiet (first|(go_at_call 51;(with_reducible refine(wq.calls kj12 a0_3 true _ A26.out).mono ?_);rintro e w' ⟨rfl,⟨nd,rfl⟩⟩;(try first|exact⟨rfl,_,World.drewN_drewN _ _ _⟩|exact⟨rfl,_,Eq.trans (World.drewN_drewN _ _ _) (congrArg (World.drewN _) (Nat.add_assoc _ _ _))⟩))|(go_at_call 76;(with_reducible refine(xv.calls kj12 a0_2 1 200 t104 _ A28.out).mono ?_);rintro e w' ⟨rfl,⟨nd,rfl⟩⟩;(try first|exact⟨rfl,_,World.drewN_drewN _ _ _⟩|exact⟨rfl,_,Eq.trans (World.drewN_drewN _ _ _) (congrArg (World.drewN _) (Nat.add_assoc _ _ _))⟩)));try go_wp2_with (first|(go_at_call 51;(with_reducible refine(wq.calls kj12 a0_3 true _ A26.out).mono ?_);rintro e w' ⟨rfl,⟨nd,rfl⟩⟩;(try first|exact⟨rfl,_,World.drewN_drewN _ _ _⟩|exact⟨rfl,_,Eq.trans (World.drewN_drewN _ _ _) (congrArg (World.drewN _) (Nat.add_assoc _ _ _))⟩))|(go_at_call 76;(with_reducible refine(xv.calls kj12 a0_2 1 200 t104 _ A28.out).mono ?_);rintro e w' ⟨rfl,⟨nd,rfl⟩⟩;(try first|exact⟨rfl,_,World.drewN_drewN _ _ _⟩|exact⟨rfl,_,Eq.trans (World.drewN_drewN _ _ _) (congrArg (World.drewN _) (Nat.add_assoc _ _ _))⟩))))
           go_ret
           exact⟨by first|rfl|(simp[*,zx,zw] <;> rfl),by solve_by_elim (maxDepth:=20) only[HB.out,J,L,I,qj,GE101.out]⟩
          ·replace c27:=jq9.mpr c27;subst c27;have H1:(some false)=some r:=by rw[if_neg (show ¬ (false=true) by decide)] at H;exact H
           clear H;have H:=H1;clear H1;obtain rfl:=Option.some.inj H;obtain⟨y30_0,y30_1,y30_2,y30_3,z30_0,z30_1,z30_2,z30_3⟩:=bx4f BK101.out;go_wp2_with (first|(go_at_call 51;(with_reducible refine(wq.calls kj12 a0_3 false _ A26.out).mono ?_);rintro e w' ⟨rfl,⟨nd,rfl⟩⟩;(try first|exact⟨rfl,_,World.drewN_drewN _ _ _⟩|exact⟨rfl,_,Eq.trans (World.drewN_drewN _ _ _) (congrArg (World.drewN _) (Nat.add_assoc _ _ _))⟩)))
           repeat(go_quiet (first|(go_at_call 51;(with_reducible refine(wq.calls kj12 a0_3 false _ A26.out).mono ?_);rintro e w' ⟨rfl,⟨nd,rfl⟩⟩;(try first|exact⟨rfl,_,World.drewN_drewN _ _ _⟩|exact⟨rfl,_,Eq.trans (World.drewN_drewN _ _ _) (congrArg (World.drewN _) (Nat.add_assoc _ _ _))⟩)));try go_wp2_with (first|(go_at_call 51;(with_reducible refine(wq.calls kj12 a0_3 false _ A26.out).mono ?_);rintro e w' ⟨rfl,⟨nd,rfl⟩⟩;(try first|exact⟨rfl,_,World.drewN_drewN _ _ _⟩|exact⟨rfl,_,Eq.trans (World.drewN_drewN _ _ _) (congrArg (World.drewN _) (Nat.add_assoc _ _ _))⟩))))
           go_ret
           exact⟨by first|rfl|(simp[*,zx,zw] <;> rfl),by solve_by_elim (maxDepth:=20) only[HB.out,J,L,I,qj,GE101.out]⟩
         ·rw[if_neg c25] at H;have c25b0:(a0_1 == 0)=false:=beq_eq_false_iff_ne.mpr c25;have c25b1:(a0_1 != 0)=true:=bne_iff_ne.mpr c25;obtain rfl:=Option.some.inj H;obtain⟨y31_0,y31_1,y31_2,y31_3,z31_0,z31_1,z31_2,z31_3⟩:=bx4f BK101.out;go_wp2
          repeat(go_quiet (fail);try go_wp2)
          go_ret
          exact⟨by first|rfl|(simp[*,zx,zw] <;> rfl),by solve_by_elim (maxDepth:=20) only[HB.out,J,L,I,qj,GE101.out]⟩
        ·rw[if_neg c24] at H;have c24b0:(a0_0 == 4)=false:=beq_eq_false_iff_ne.mpr c24;have c24b1:(a0_0 != 4)=true:=bne_iff_ne.mpr c24
         by_cases c32:a0_0=6
         ·rw[if_pos c32] at H;have c32b0:(a0_0 == 6)=true:=beq_iff_eq.mpr c32;have c32b1:(a0_0 != 6)=false:=bne_eq_false_iff_eq.mpr c32;clear c32
          by_cases c33:x3_1=true
          ·subst c33;have H1:(if a0_1 < 0 then(some false) else(if (Int.tmod a0_1 64)≤32 then(if (wrap64 (Int.tdiv a0_1 64)) < 4294967296 then(if 0≤(wrap64 (32 - (Int.tmod a0_1 64))) then(if (shl .i64 1 (wrap64 (32 - (Int.tmod a0_1 64))))=0 then(none) else(some ((Int.tmod (wrap64 (Int.tdiv a0_1 64)) (shl .i64 1 (wrap64 (32 - (Int.tmod a0_1 64))))) == 0))) else(none)) else(some false)) else(some false)))=some r:=by rw[if_pos rfl] at H;exact H
           clear H;have H:=H1;clear H1
           by_cases c34:a0_1 < 0
           ·rw[if_pos c34] at H;have c34b0:decide (a0_1 < 0)=true:=decide_eq_true c34;clear c34;obtain rfl:=Option.some.inj H;obtain⟨y35_0,y35_1,y35_2,y35_3,z35_0,z35_1,z35_2,z35_3⟩:=bx4f BK101.out;go_wp2
            repeat(go_quiet (fail);try go_wp2)
            go_ret
            exact⟨by first|rfl|(simp[*,zx,zw] <;> rfl),by solve_by_elim (maxDepth:=20) only[HB.out,J,L,I,qj,GE101.out]⟩
           ·rw[if_neg c34] at H;have c34b0:decide (a0_1 < 0)=false:=decide_eq_false c34;clear c34
            by_cases c36:(Int.tmod a0_1 64)≤32
            ·rw[if_pos c36] at H;have c36b0:decide ((Int.tmod a0_1 64)≤32)=true:=decide_eq_true c36;clear c36
             by_cases c37:(wrap64 (Int.tdiv a0_1 64)) < 4294967296
             ·rw[if_pos c37] at H;have c37b0:decide ((wrap64 (Int.tdiv a0_1 64)) < 4294967296)=true:=decide_eq_true c37;clear c37;obtain⟨ji38,hji38⟩ : ∃ j_:Int,(wrap64 (32 - (Int.tmod a0_1 64)))=j_:=⟨_,rfl⟩;replace H:(if 0≤(ji38) then(if (shl .i64 1 (ji38))=0 then(none) else(some ((Int.tmod (wrap64 (Int.tdiv a0_1 64)) (shl .i64 1 (ji38))) == 0))) else(none))=some r:=by first|(rw[hji38] at H;exact H)|(simp only[hji38] at H ⊢;exact H)
              have hji38w:(IntKind.i64.wrap (32 - (Int.tmod a0_1 64)))=ji38:=(i64_w _).trans hji38
              by_cases c39 : 0≤(ji38)
              ·rw[if_pos c39] at H;have c39b0:=eq_true c39;have c39b1:decide (0≤(ji38))=true:=decide_eq_true c39;clear c39;obtain⟨ji40,hji40⟩ : ∃ j_:Int,(shl .i64 1 (ji38))=j_:=⟨_,rfl⟩;replace H:(if (ji40)=0 then(none) else(some ((Int.tmod (wrap64 (Int.tdiv a0_1 64)) (ji40)) == 0)))=some r:=by first|(rw[hji40] at H;exact H)|(simp only[hji40] at H ⊢;exact H)
               have hji40_:(IntKind.i64.wrap (1 * 2 ^ min (ji38).toNat 64))=ji40:=hji40;have hji40z:(ji38)≤64→(IntKind.i64.wrap (1 * 2 ^ (ji38).toNat))=ji40:=shl_small hji40;have hji40u:(IntKind.i64.wrap (2 ^ min (ji38).toNat 64))=ji40:=by have h_:=hji40_;rw[Int.one_mul] at h_;exact h_
               have hji40v:(ji38)≤64→(IntKind.i64.wrap (2 ^ (ji38).toNat))=ji40:=fun hle_=>by have h_:=hji40z hle_;rw[Int.one_mul] at h_;exact h_
               have hji40y:(wrap64 (1 * 2 ^ min (ji38).toNat 64))=ji40:=(i64_w _).symm.trans hji40_;have hji40x:(ji38)≤64→(wrap64 (1 * 2 ^ (ji38).toNat))=ji40:=fun h_=>(i64_w _).symm.trans (hji40z h_)
               by_cases c41:(ji40)=0
               ·rw[if_pos c41] at H;exact absurd H (by simp)
               ·rw[if_neg c41] at H;have c41b0:((ji40) == 0)=false:=beq_eq_false_iff_ne.mpr c41;have c41b1:((ji40) != 0)=true:=bne_iff_ne.mpr c41;obtain rfl:=Option.some.inj H;obtain⟨y42_0,y42_1,y42_2,y42_3,z42_0,z42_1,z42_2,z42_3⟩:=bx4f BK101.out;go_wp2
                repeat(go_quiet (fail);try go_wp2)
                go_ret
                exact⟨by first|rfl|(simp[zx,zw] <;> rfl)|(simp only[← hji38,← hji40];first|rfl|(simp[zx,zw] <;> rfl))|(simp[*,zx,zw] <;> rfl),by solve_by_elim (maxDepth:=20) only[HB.out,J,L,I,qj,GE101.out]⟩
              ·rw[if_neg c39] at H;exact absurd H (by simp)
             ·rw[if_neg c37] at H;have c37b0:decide ((wrap64 (Int.tdiv a0_1 64)) < 4294967296)=false:=decide_eq_false c37;clear c37;obtain rfl:=Option.some.inj H;obtain⟨y43_0,y43_1,y43_2,y43_3,z43_0,z43_1,z43_2,z43_3⟩:=bx4f BK101.out;go_wp2
              repeat(go_quiet (fail);try go_wp2)
              go_ret
              exact⟨by first|rfl|(simp[*,zx,zw] <;> rfl),by solve_by_elim (maxDepth:=20) only[HB.out,J,L,I,qj,GE101.out]⟩
            ·rw[if_neg c36] at H;have c36b0:decide ((Int.tmod a0_1 64)≤32)=false:=decide_eq_false c36;clear c36;obtain rfl:=Option.some.inj H;obtain⟨y44_0,y44_1,y44_2,y44_3,z44_0,z44_1,z44_2,z44_3⟩:=bx4f BK101.out;go_wp2
             repeat(go_quiet (fail);try go_wp2)
             go_ret
             exact⟨by first|rfl|(simp[*,zx,zw] <;> rfl),by solve_by_elim (maxDepth:=20) only[HB.out,J,L,I,qj,GE101.out]⟩
          ·replace c33:=jq9.mpr c33;subst c33;have H1:(some false)=some r:=by rw[if_neg (show ¬ (false=true) by decide)] at H;exact H
           clear H;have H:=H1;clear H1;obtain rfl:=Option.some.inj H;go_wp2
           repeat(go_quiet (fail);try go_wp2)
           go_ret
           exact⟨by first|rfl|(simp[*,zx,zw] <;> rfl),by solve_by_elim (maxDepth:=20) only[HB.out,J,L,I,qj,GE101.out]⟩
         ·rw[if_neg c32] at H;have c32b0:(a0_0 == 6)=false:=beq_eq_false_iff_ne.mpr c32;have c32b1:(a0_0 != 6)=true:=bne_iff_ne.mpr c32
          by_cases c45:a0_0=7
          ·rw[if_pos c45] at H;have c45b0:(a0_0 == 7)=true:=beq_iff_eq.mpr c45;have c45b1:(a0_0 != 7)=false:=bne_eq_false_iff_eq.mpr c45;clear c45
           by_cases c46:x3_1=true
           ·subst c46;have H1:(if a0_1 ≥ (-100000000000) then(some (decide (a0_1≤100000000000))) else(some false))=some r:=by rw[if_pos rfl] at H;exact H
            clear H;have H:=H1;clear H1
            by_cases c47:a0_1 ≥ (-100000000000)
            ·rw[if_pos c47] at H;have c47b0:decide ((-100000000000)≤a0_1)=true:=decide_eq_true c47;clear c47;obtain rfl:=Option.some.inj H;obtain⟨y48_0,y48_1,y48_2,y48_3,z48_0,z48_1,z48_2,z48_3⟩:=bx4f BK101.out;go_wp2
             repeat(go_quiet (fail);try go_wp2)
             go_ret
             exact⟨by first|rfl|(simp[*,zx,zw] <;> rfl),by solve_by_elim (maxDepth:=20) only[HB.out,J,L,I,qj,GE101.out]⟩
            ·rw[if_neg c47] at H;have c47b0:decide ((-100000000000)≤a0_1)=false:=decide_eq_false c47;clear c47;obtain rfl:=Option.some.inj H;obtain⟨y49_0,y49_1,y49_2,y49_3,z49_0,z49_1,z49_2,z49_3⟩:=bx4f BK101.out;go_wp2
             repeat(go_quiet (fail);try go_wp2)
             go_ret
             exact⟨by first|rfl|(simp[*,zx,zw] <;> rfl),by solve_by_elim (maxDepth:=20) only[HB.out,J,L,I,qj,GE101.out]⟩
           ·replace c46:=jq9.mpr c46;subst c46;have H1:(some false)=some r:=by rw[if_neg (show ¬ (false=true) by decide)] at H;exact H
            clear H;have H:=H1;clear H1;obtain rfl:=Option.some.inj H;go_wp2
            repeat(go_quiet (fail);try go_wp2)
            go_ret
            exact⟨by first|rfl|(simp[*,zx,zw] <;> rfl),by solve_by_elim (maxDepth:=20) only[HB.out,J,L,I,qj,GE101.out]⟩
          ·rw[if_neg c45] at H;have c45b0:(a0_0 == 7)=false:=beq_eq_false_iff_ne.mpr c45;have c45b1:(a0_0 != 7)=true:=bne_iff_ne.mpr c45;obtain rfl:=Option.some.inj H;go_wp2
           repeat(go_quiet (fail);try go_wp2)
           go_ret
           exact⟨by first|rfl|(simp[*,zx,zw] <;> rfl),by solve_by_elim (maxDepth:=20) only[HB.out,J,L,I,qj,GE101.out]⟩
end Go.Proofs.YtnbbbjfjkhglhaaGreatDoor.Pr
namespace Go.Proofs.YtnbbbjfjkhglhaaGreatDoor.Pr
open Go.RowKit Go.Proofs.YtnbbbjfjkhglhaaGreatDoorW.PrintWords Go.Proofs.YtnbbbjfjkhglhaaGreatDoorW.PrintLast Go.Proofs.YtnbbbjfjkhglhaaGreatDoorW.PrintMore
attribute [local go_sem] max2_int min2_int max_two min_two max_three min_three max_four min_four
set_option linter.unusedVariables false
set_option linter.unusedSimpArgs false
def xk.j0:Nat→Int→Int→Bool→Option (Bool)
 | 0,_,_,_=>none
 | k + 1,x1,x5,x8=>if x8=true then(if x1=2 then(some true) else(if x1=3 then(some true) else(if x1=5 then(some true) else(some (x1 == 7))))) else(if x5=4 then(some (x1 == 6)) else(some false))
def xk.f (k:Nat) (a0:Int) (a1:Int):Option (Bool):=if a0=1 then(some true) else(if a0=2 then(xk.j0 k a1 a0 (a0 == 2)) else(xk.j0 k a1 a0 (a0 == 3)))
theorem xk.mono_l:∀ k,(∀ y0 y1 y2,LeO (xk.j0 k y0 y1 y2) (xk.j0 (k + 1) y0 y1 y2))
 | 0=>fun _ _ _ r h=>by simp[xk.j0] at h
 | k + 1=>by
  have ih0:=xk.mono_l k
  ·intro y0 y1 y2
   unfold xk.j0
   repeat' first
   | (with_reducible exact ih0 _ _ _)
   | (with_reducible exact LeO.refl _)
   | (with_reducible exact LeO.none _)
   | (with_reducible refine LeO.ite ?_ ?_)
   | (with_reducible refine LeO.bind ?_ (fun _=>?_))
   | exact ih0 _ _ _
   | exact LeO.none _
   | refine LeO.ite ?_ ?_
   | refine LeO.bind ?_ (fun _=>?_)
theorem xk.mono:∀ a0 a1 k,LeO (xk.f k a0 a1) (xk.f (k + 1) a0 a1):=by
 intro a0 a1 k
 have ih0:=xk.mono_l k;unfold xk.f
 repeat' first
   | (with_reducible exact ih0 _ _ _)
   | (with_reducible exact LeO.refl _)
   | (with_reducible exact LeO.none _)
   | (with_reducible refine LeO.ite ?_ ?_)
   | (with_reducible refine LeO.bind ?_ (fun _=>?_))
   | exact ih0 _ _ _
   | exact LeO.none _
   | refine LeO.ite ?_ ?_
   | refine LeO.bind ?_ (fun _=>?_)
theorem xk.calls (k:Nat) (a0:Int) (a1:Int) (r:Bool) (w:World) (h:xk.f k a0 a1=some r) :
  Calls Tryz.prog 53 #[.int .i64 a0,.int .i64 a1] w fun e w'=>e=.returned (.bool r)∧Drawn0 w w':=by
 unfold xk.f at h;have H:=h;clear h
 by_cases c3:a0=1
 ·rw[if_pos c3] at H;have c3b0:(a0 == 1)=true:=beq_iff_eq.mpr c3;have c3b1:(a0 != 1)=false:=bne_eq_false_iff_eq.mpr c3;clear c3;obtain rfl:=Option.some.inj H;go_enter Tryz.func53,Tryz.ntmps53;go_wp2;go_ret
  exact⟨by first|rfl|(simp;done)|(simp[*];done),by repeat(first|exact Drawn0.refl _|apply Drawn0.step)⟩
 ·rw[if_neg c3] at H;have c3b0:(a0 == 1)=false:=beq_eq_false_iff_ne.mpr c3;have c3b1:(a0 != 1)=true:=bne_iff_ne.mpr c3;have HC4:=O.mk H;clear H;go_enter Tryz.func53,Tryz.ntmps53;go_upto_if 8 with (fail)
  go_cut [8] (fun v8 wc=>∃ (kq:Nat) (x8_3:Bool),v8=.bool x8_3∧O (xk.j0 kq a1 a0 x8_3=some r)∧O (kq≤k)∧Drawn0 w wc)
  case first =>
   have H:=HC4.out;clear HC4
   by_cases c5:a0=2
   ·rw[if_pos c5] at H;have c5b0:(a0 == 2)=true:=beq_iff_eq.mpr c5;have c5b1:(a0 != 2)=false:=bne_eq_false_iff_eq.mpr c5;clear c5
    (first|rw[c5b0]|(simp only[i64_w,i32_w];rw[c5b0])|skip)
    have H':=O.mk H;clear H;go_wp2;go_meet
    case rel=>exact⟨_,((a0 == 2)),(by first|rfl|(simp;done)|(simp[*];done)),H',⟨by first|omega|exact Nat.le_refl _⟩,by repeat(first|exact Drawn0.refl _|apply Drawn0.step)⟩
   ·rw[if_neg c5] at H;have c5b0:(a0 == 2)=false:=beq_eq_false_iff_ne.mpr c5;have c5b1:(a0 != 2)=true:=bne_iff_ne.mpr c5
    (first|rw[c5b0]|(simp only[i64_w,i32_w];rw[c5b0])|skip)
    have H':=O.mk H;clear H;go_wp2;go_meet
    case rel=>exact⟨_,((a0 == 3)),(by first|rfl|(simp;done)|(simp[*];done)),H',⟨by first|omega|exact Nat.le_refl _⟩,by repeat(first|exact Drawn0.refl _|apply Drawn0.step)⟩
  case rest =>
   clear HC4;try clear p2
   try clear c3
   try clear c3b0
   try clear c3b1
   try clear c5
   try clear c5b0
   try clear c5b1
   obtain⟨kq,x8_3,rfl,HA,HJ3,⟨mc3,rfl⟩⟩:=hcut
   cases kq with
   | zero=>exact absurd HA.out (by simp[xk.j0])
   | succ kj3 =>
    have H:=HA.out;clear HA;simp only[xk.j0] at H
    by_cases c6:x8_3=true
    ·subst c6;have H1:(if a1=2 then(some true) else(if a1=3 then(some true) else(if a1=5 then(some true) else(some (a1 == 7)))))=some r:=by rw[if_pos rfl] at H;exact H
     clear H;have H:=H1;clear H1
     by_cases c7:a1=2
     ·rw[if_pos c7] at H;have c7b0:(a1 == 2)=true:=beq_iff_eq.mpr c7;have c7b1:(a1 != 2)=false:=bne_eq_false_iff_eq.mpr c7;clear c7;obtain rfl:=Option.some.inj H;go_wp2;go_ret
      exact⟨by first|rfl|(simp;done)|(simp[*];done),by repeat(first|exact Drawn0.refl _|apply Drawn0.step)⟩
     ·rw[if_neg c7] at H;have c7b0:(a1 == 2)=false:=beq_eq_false_iff_ne.mpr c7;have c7b1:(a1 != 2)=true:=bne_iff_ne.mpr c7
      by_cases c8:a1=3
      ·rw[if_pos c8] at H;have c8b0:(a1 == 3)=true:=beq_iff_eq.mpr c8;have c8b1:(a1 != 3)=false:=bne_eq_false_iff_eq.mpr c8;clear c8;obtain rfl:=Option.some.inj H;go_wp2;go_ret
       exact⟨by first|rfl|(simp;done)|(simp[*];done),by repeat(first|exact Drawn0.refl _|apply Drawn0.step)⟩
      ·rw[if_neg c8] at H;have c8b0:(a1 == 3)=false:=beq_eq_false_iff_ne.mpr c8;have c8b1:(a1 != 3)=true:=bne_iff_ne.mpr c8
       by_cases c9:a1=5
       ·rw[if_pos c9] at H;have c9b0:(a1 == 5)=true:=beq_iff_eq.mpr c9;have c9b1:(a1 != 5)=false:=bne_eq_false_iff_eq.mpr c9;clear c9;obtain rfl:=Option.some.inj H;go_wp2;go_ret
        exact⟨by first|rfl|(simp;done)|(simp[*];done),by repeat(first|exact Drawn0.refl _|apply Drawn0.step)⟩
       ·rw[if_neg c9] at H;have c9b0:(a1 == 5)=false:=beq_eq_false_iff_ne.mpr c9;have c9b1:(a1 != 5)=true:=bne_iff_ne.mpr c9;obtain rfl:=Option.some.inj H;go_wp2;go_ret
        exact⟨by first|rfl|(simp;done)|(simp[*];done),by repeat(first|exact Drawn0.refl _|apply Drawn0.step)⟩
    ·replace c6:=jq9.mpr c6;subst c6;have H1:(if a0=4 then(some (a1 == 6)) else(some false))=some r:=by rw[if_neg (show ¬ (false=true) by decide)] at H;exact H
     clear H;have H:=H1;clear H1
     by_cases c10:a0=4
     ·rw[if_pos c10] at H;have c10b0:(a0 == 4)=true:=beq_iff_eq.mpr c10;have c10b1:(a0 != 4)=false:=bne_eq_false_iff_eq.mpr c10;clear c10;obtain rfl:=Option.some.inj H;go_wp2;go_ret
      exact⟨by first|rfl|(simp;done)|(simp[*];done),by repeat(first|exact Drawn0.refl _|apply Drawn0.step)⟩
     ·rw[if_neg c10] at H;have c10b0:(a0 == 4)=false:=beq_eq_false_iff_ne.mpr c10;have c10b1:(a0 != 4)=true:=bne_iff_ne.mpr c10;obtain rfl:=Option.some.inj H;go_wp2;go_ret
      exact⟨by first|rfl|(simp;done)|(simp[*];done),by repeat(first|exact Drawn0.refl _|apply Drawn0.step)⟩
end Go.Proofs.YtnbbbjfjkhglhaaGreatDoor.Pr
namespace Go.Proofs.YtnbbbjfjkhglhaaGreatDoor.Pr
open Go.RowKit Go.Proofs.YtnbbbjfjkhglhaaGreatDoorW.PrintWords Go.Proofs.YtnbbbjfjkhglhaaGreatDoorW.PrintLast Go.Proofs.YtnbbbjfjkhglhaaGreatDoorW.PrintMore
attribute [local go_sem] max2_int min2_int max_two min_two max_three min_three max_four min_four
set_option linter.unusedVariables false
set_option linter.unusedSimpArgs false
def xz.f (k:Nat) (a0_0:ByteArray) (a0_1:Int) (a0_2:ByteArray) (a0_3:Int) (a0_4:Int) (a0_5:ByteArray) (a0_6:ByteArray):Option (Bool):=(wq.f k a0_0).bind fun t102=>(if t102=true then(if a0_2.toList=([]:List UInt8) then((vx.f k a0_3 a0_4 a0_5 a0_6).bind fun t103=>(if t103=true then(if a0_1=4 then(if a0_3=6 then(some true) else(some false)) else((xk.f k a0_1 a0_3).bind fun t104=>(if t104=true then((xk.f k 2 a0_3).bind fun t105=>(some t105)) else(some false)))) else(some false))) else(some false)) else(some false))
theorem xz.mono:∀ a0 a1 a2 a3 a4 a5 a6 k,LeO (xz.f k a0 a1 a2 a3 a4 a5 a6) (xz.f (k + 1) a0 a1 a2 a3 a4 a5 a6):=by
 intro a0 a1 a2 a3 a4 a5 a6 k
 unfold xz.f
 repeat' first
   | (with_reducible exact vx.mono _ _ _ _ _)
   | (with_reducible exact wq.mono _ _)
   | (with_reducible exact xk.mono _ _ _)
   | (with_reducible exact LeO.refl _)
   | (with_reducible exact LeO.none _)
   | (with_reducible refine LeO.ite ?_ ?_)
   | (with_reducible refine LeO.bind ?_ (fun _=>?_))
   | exact vx.mono _ _ _ _ _
   | exact wq.mono _ _
   | exact xk.mono _ _ _
   | exact LeO.none _
   | refine LeO.ite ?_ ?_
   | refine LeO.bind ?_ (fun _=>?_)
theorem xz.calls (k:Nat) (a0_0:ByteArray) (a0_1:Int) (a0_2:ByteArray) (a0_3:Int) (a0_4:Int) (a0_5:ByteArray) (a0_6:ByteArray) (r:Bool) (w:World) (h:xz.f k a0_0 a0_1 a0_2 a0_3 a0_4 a0_5 a0_6=some r) :
  Calls Tryz.prog 24 #[.agg #[.string a0_0,.int .i64 a0_1,.string a0_2,.int .i64 a0_3,.int .i64 a0_4,.string a0_5,.string a0_6]] w fun e w'=>e=.returned (.bool r)∧Below w.heap.size w w':=by
 have hu30:=Tryz.underlying30;have hu28:=Tryz.underlying28;have HB:=O.mk (Below.refl w.heap.size w);unfold xz.f at h;have H:=h;clear h;replace H:=jq8.mp H;obtain⟨t102,A20,H⟩:=H;try dsimp only at H
 have A2:=O.mk A20;clear A20
 by_cases c3:t102=true
 ·subst c3;have H1:(if a0_2.toList=([]:List UInt8) then((vx.f k a0_3 a0_4 a0_5 a0_6).bind fun t103=>(if t103=true then(if a0_1=4 then(if a0_3=6 then(some true) else(some false)) else((xk.f k a0_1 a0_3).bind fun t104=>(if t104=true then((xk.f k 2 a0_3).bind fun t105=>(some t105)) else(some false)))) else(some false))) else(some false))=some r:=by rw[if_pos rfl] at H;exact H
  clear H;have H:=H1;clear H1
  by_cases c4:a0_2.toList=([]:List UInt8)
  ·rw[if_pos c4] at H;have c4b0:(a0_2.toList == ([]:List UInt8))=true:=beq_iff_eq.mpr c4;have c4b1:(a0_2.toList != ([]:List UInt8))=false:=bne_eq_false_iff_eq.mpr c4;clear c4;replace H:=jq8.mp H;obtain⟨t103,A50,H⟩:=H;try dsimp only at H
   have A5:=O.mk A50;clear A50
   by_cases c6:t103=true
   ·subst c6;have H1:(if a0_1=4 then(if a0_3=6 then(some true) else(some false)) else((xk.f k a0_1 a0_3).bind fun t104=>(if t104=true then((xk.f k 2 a0_3).bind fun t105=>(some t105)) else(some false))))=some r:=by rw[if_pos rfl] at H;exact H
    clear H;have H:=H1;clear H1
    by_cases c7:a0_1=4
    ·rw[if_pos c7] at H;have c7b0:(a0_1 == 4)=true:=beq_iff_eq.mpr c7;have c7b1:(a0_1 != 4)=false:=bne_eq_false_iff_eq.mpr c7;clear c7
     by_cases c8:a0_3=6
     ·rw[if_pos c8] at H;have c8b0:(a0_3 == 6)=true:=beq_iff_eq.mpr c8;have c8b1:(a0_3 != 6)=false:=bne_eq_false_iff_eq.mpr c8;clear c8;obtain rfl:=Option.some.inj H;go_enter Tryz.func24,Tryz.ntmps24;go_wp2_with (first|((with_reducible refine gate_dst (N:=1) rfl ?_);refine box_event ?hg (N:=1) ?hd (cs:=#[.string a0_0,.int .i64 a0_1,.string a0_2,.int .i64 a0_3,.int .i64 a0_4,.string a0_5,.string a0_6]) (t:=30) ?hr ?_;(case hd=>rfl);(case hg=>rfl);(case hr=>first|(go_simp;done)|(go_simp;rfl));intro gb101 hg w9 hbox hb;have BK101:=O.mk (hbox);have GW101:=O.mk ((by rw[hg];exact(zz (by solve_by_elim only[HB.out,J,L,I])):w.heap.size≤gb101));have GE101:=GW101;replace HB:=O.mk (zq (by solve_by_elim only[HB.out,J,L,I]) hb);clear hb hbox hg;obtain⟨y10_0,y10_1,y10_2,y10_3,y10_4,y10_5,y10_6,z10_0,z10_1,z10_2,z10_3,z10_4,z10_5,z10_6⟩:=bx7f BK101.out)|((with_reducible refine jq (f:=51) rfl ?_);refine goesL_ (some 5) rfl rfl Tryz.func51 (by kernel_rfl) rfl #[.string a0_0] rfl (by(try simp only[jq0,jq1,jq2]);first|done|rfl|(simp only[jq3,jq4];rfl)) ?_;(with_reducible refine(wq.calls k a0_0 true _ A2.out).mono ?_);rintro e w' ⟨rfl,⟨nd,rfl⟩⟩;refine⟨_,rfl,?_⟩)|(go_at_call 52;(with_reducible refine(vx.calls k a0_3 a0_4 a0_5 a0_6 true _ A5.out).mono ?_);rintro e w11 ⟨rfl,hb⟩;replace BK101:=O.mk (kz (by solve_by_elim only[BK101.out,qv,qw,qk]) hb);replace HB:=O.mk (zq (by solve_by_elim (maxDepth:=20) only[HB.out,J,L,I,qj,GE101.out]) hb);(try clear hb);obtain⟨y12_0,y12_1,y12_2,y12_3,y12_4,y12_5,y12_6,z12_0,z12_1,z12_2,z12_3,z12_4,z12_5,z12_6⟩:=bx7f BK101.out))
      go_ret
      exact⟨by first|rfl|(simp[*,zx,zw] <;> rfl),by solve_by_elim (maxDepth:=20) only[HB.out,J,L,I,qj,GE101.out]⟩
     ·rw[if_neg c8] at H;have c8b0:(a0_3 == 6)=false:=beq_eq_false_iff_ne.mpr c8;have c8b1:(a0_3 != 6)=true:=bne_iff_ne.mpr c8;obtain rfl:=Option.some.inj H;go_enter Tryz.func24,Tryz.ntmps24;go_wp2_with (first|((with_reducible refine gate_dst (N:=1) rfl ?_);refine box_event ?hg (N:=1) ?hd (cs:=#[.string a0_0,.int .i64 a0_1,.string a0_2,.int .i64 a0_3,.int .i64 a0_4,.string a0_5,.string a0_6]) (t:=30) ?hr ?_;(case hd=>rfl);(case hg=>rfl);(case hr=>first|(go_simp;done)|(go_simp;rfl));intro gb101 hg w13 hbox hb;have BK101:=O.mk (hbox);have GW101:=O.mk ((by rw[hg];exact(zz (by solve_by_elim only[HB.out,J,L,I])):w.heap.size≤gb101));have GE101:=GW101;replace HB:=O.mk (zq (by solve_by_elim only[HB.out,J,L,I]) hb);clear hb hbox hg;obtain⟨y14_0,y14_1,y14_2,y14_3,y14_4,y14_5,y14_6,z14_0,z14_1,z14_2,z14_3,z14_4,z14_5,z14_6⟩:=bx7f BK101.out)|((with_reducible refine jq (f:=51) rfl ?_);refine goesL_ (some 5) rfl rfl Tryz.func51 (by kernel_rfl) rfl #[.string a0_0] rfl (by(try simp only[jq0,jq1,jq2]);first|done|rfl|(simp only[jq3,jq4];rfl)) ?_;(with_reducible refine(wq.calls k a0_0 true _ A2.out).mono ?_);rintro e w' ⟨rfl,⟨nd,rfl⟩⟩;refine⟨_,rfl,?_⟩)|(go_at_call 52;(with_reducible refine(vx.calls k a0_3 a0_4 a0_5 a0_6 true _ A5.out).mono ?_);rintro e w15 ⟨rfl,hb⟩;replace BK101:=O.mk (kz (by solve_by_elim only[BK101.out,qv,qw,qk]) hb);replace HB:=O.mk (zq (by solve_by_elim (maxDepth:=20) only[HB.out,J,L,I,qj,GE101.out]) hb);(try clear hb);obtain⟨y16_0,y16_1,y16_2,y16_3,y16_4,y16_5,y16_6,z16_0,z16_1,z16_2,z16_3,z16_4,z16_5,z16_6⟩:=bx7f BK101.out))
      go_ret
      exact⟨by first|rfl|(simp[*,zx,zw] <;> rfl),by solve_by_elim (maxDepth:=20) only[HB.out,J,L,I,qj,GE101.out]⟩
    ·rw[if_neg c7] at H;have c7b0:(a0_1 == 4)=false:=beq_eq_false_iff_ne.mpr c7;have c7b1:(a0_1 != 4)=true:=bne_iff_ne.mpr c7;replace H:=jq8.mp H;obtain⟨t104,A170,H⟩:=H;try dsimp only at H
     have A17:=O.mk A170;clear A170
     by_cases c18:t104=true
     ·subst c18;have H1:((xk.f k 2 a0_3).bind fun t105=>(some t105))=some r:=by rw[if_pos rfl] at H;exact H
      clear H;have H:=H1;clear H1;replace H:=jq8.mp H;obtain⟨t105,A190,H⟩:=H;replace H:(some t105)=some r:=H;have A19:=O.mk A190;clear A190;obtain rfl:=Option.some.inj H;go_enter Tryz.func24,Tryz.ntmps24;go_wp2_with (first|((with_reducible refine gate_dst (N:=1) rfl ?_);refine box_event ?hg (N:=1) ?hd (cs:=#[.string a0_0,.int .i64 a0_1,.string a0_2,.int .i64 a0_3,.int .i64 a0_4,.string a0_5,.string a0_6]) (t:=30) ?hr ?_;(case hd=>rfl);(case hg=>rfl);(case hr=>first|(go_simp;done)|(go_simp;rfl));intro gb101 hg w20 hbox hb;have BK101:=O.mk (hbox);have GW101:=O.mk ((by rw[hg];exact(zz (by solve_by_elim only[HB.out,J,L,I])):w.heap.size≤gb101));have GE101:=GW101;replace HB:=O.mk (zq (by solve_by_elim only[HB.out,J,L,I]) hb);clear hb hbox hg;obtain⟨y21_0,y21_1,y21_2,y21_3,y21_4,y21_5,y21_6,z21_0,z21_1,z21_2,z21_3,z21_4,z21_5,z21_6⟩:=bx7f BK101.out)|((with_reducible refine jq (f:=51) rfl ?_);refine goesL_ (some 5) rfl rfl Tryz.func51 (by kernel_rfl) rfl #[.string a0_0] rfl (by(try simp only[jq0,jq1,jq2]);first|done|rfl|(simp only[jq3,jq4];rfl)) ?_;(with_reducible refine(wq.calls k a0_0 true _ A2.out).mono ?_);rintro e w' ⟨rfl,⟨nd,rfl⟩⟩;refine⟨_,rfl,?_⟩)|(go_at_call 52;(with_reducible refine(vx.calls k a0_3 a0_4 a0_5 a0_6 true _ A5.out).mono ?_);rintro e w22 ⟨rfl,hb⟩;replace BK101:=O.mk (kz (by solve_by_elim only[BK101.out,qv,qw,qk]) hb);replace HB:=O.mk (zq (by solve_by_elim (maxDepth:=20) only[HB.out,J,L,I,qj,GE101.out]) hb);(try clear hb);obtain⟨y23_0,y23_1,y23_2,y23_3,y23_4,y23_5,y23_6,z23_0,z23_1,z23_2,z23_3,z23_4,z23_5,z23_6⟩:=bx7f BK101.out)|(go_at_call 53;(with_reducible refine(xk.calls k a0_1 a0_3 true _ A17.out).mono ?_);rintro e w' ⟨rfl,⟨nd,rfl⟩⟩)|(go_at_call 53;(with_reducible refine(xk.calls k 2 a0_3 t105 _ A19.out).mono ?_);rintro e w' ⟨rfl,⟨nd,rfl⟩⟩))
      go_ret
      exact⟨by first|rfl|(simp[*,zx,zw] <;> rfl),by solve_by_elim (maxDepth:=20) only[HB.out,J,L,I,qj,GE101.out]⟩
     ·replace c18:=jq9.mpr c18;subst c18;have H1:(some false)=some r:=by rw[if_neg (show ¬ (false=true) by decide)] at H;exact H
      clear H;have H:=H1;clear H1;obtain rfl:=Option.some.inj H;go_enter Tryz.func24,Tryz.ntmps24;go_wp2_with (first|((with_reducible refine gate_dst (N:=1) rfl ?_);refine box_event ?hg (N:=1) ?hd (cs:=#[.string a0_0,.int .i64 a0_1,.string a0_2,.int .i64 a0_3,.int .i64 a0_4,.string a0_5,.string a0_6]) (t:=30) ?hr ?_;(case hd=>rfl);(case hg=>rfl);(case hr=>first|(go_simp;done)|(go_simp;rfl));intro gb101 hg w24 hbox hb;have BK101:=O.mk (hbox);have GW101:=O.mk ((by rw[hg];exact(zz (by solve_by_elim only[HB.out,J,L,I])):w.heap.size≤gb101));have GE101:=GW101;replace HB:=O.mk (zq (by solve_by_elim only[HB.out,J,L,I]) hb);clear hb hbox hg;obtain⟨y25_0,y25_1,y25_2,y25_3,y25_4,y25_5,y25_6,z25_0,z25_1,z25_2,z25_3,z25_4,z25_5,z25_6⟩:=bx7f BK101.out)|((with_reducible refine jq (f:=51) rfl ?_);refine goesL_ (some 5) rfl rfl Tryz.func51 (by kernel_rfl) rfl #[.string a0_0] rfl (by(try simp only[jq0,jq1,jq2]);first|done|rfl|(simp only[jq3,jq4];rfl)) ?_;(with_reducible refine(wq.calls k a0_0 true _ A2.out).mono ?_);rintro e w' ⟨rfl,⟨nd,rfl⟩⟩;refine⟨_,rfl,?_⟩)|(go_at_call 52;(with_reducible refine(vx.calls k a0_3 a0_4 a0_5 a0_6 true _ A5.out).mono ?_);rintro e w26 ⟨rfl,hb⟩;replace BK101:=O.mk (kz (by solve_by_elim only[BK101.out,qv,qw,qk]) hb);replace HB:=O.mk (zq (by solve_by_elim (maxDepth:=20) only[HB.out,J,L,I,qj,GE101.out]) hb);(try clear hb);obtain⟨y27_0,y27_1,y27_2,y27_3,y27_4,y27_5,y27_6,z27_0,z27_1,z27_2,z27_3,z27_4,z27_5,z27_6⟩:=bx7f BK101.out)|(go_at_call 53;(with_reducible refine(xk.calls k a0_1 a0_3 false _ A17.out).mono ?_);rintro e w' ⟨rfl,⟨nd,rfl⟩⟩))
      go_ret
      exact⟨by first|rfl|(simp[*,zx,zw] <;> rfl),by solve_by_elim (maxDepth:=20) only[HB.out,J,L,I,qj,GE101.out]⟩
   ·replace c6:=jq9.mpr c6;subst c6;have H1:(some false)=some r:=by rw[if_neg (show ¬ (false=true) by decide)] at H;exact H
    clear H;have H:=H1;clear H1;obtain rfl:=Option.some.inj H;go_enter Tryz.func24,Tryz.ntmps24;go_wp2_with (first|((with_reducible refine gate_dst (N:=1) rfl ?_);refine box_event ?hg (N:=1) ?hd (cs:=#[.string a0_0,.int .i64 a0_1,.string a0_2,.int .i64 a0_3,.int .i64 a0_4,.string a0_5,.string a0_6]) (t:=30) ?hr ?_;(case hd=>rfl);(case hg=>rfl);(case hr=>first|(go_simp;done)|(go_simp;rfl));intro gb101 hg w28 hbox hb;have BK101:=O.mk (hbox);have GW101:=O.mk ((by rw[hg];exact(zz (by solve_by_elim only[HB.out,J,L,I])):w.heap.size≤gb101));have GE101:=GW101;replace HB:=O.mk (zq (by solve_by_elim only[HB.out,J,L,I]) hb);clear hb hbox hg;obtain⟨y29_0,y29_1,y29_2,y29_3,y29_4,y29_5,y29_6,z29_0,z29_1,z29_2,z29_3,z29_4,z29_5,z29_6⟩:=bx7f BK101.out)|((with_reducible refine jq (f:=51) rfl ?_);refine goesL_ (some 5) rfl rfl Tryz.func51 (by kernel_rfl) rfl #[.string a0_0] rfl (by(try simp only[jq0,jq1,jq2]);first|done|rfl|(simp only[jq3,jq4];rfl)) ?_;(with_reducible refine(wq.calls k a0_0 true _ A2.out).mono ?_);rintro e w' ⟨rfl,⟨nd,rfl⟩⟩;refine⟨_,rfl,?_⟩)|(go_at_call 52;(with_reducible refine(vx.calls k a0_3 a0_4 a0_5 a0_6 false _ A5.out).mono ?_);rintro e w30 ⟨rfl,hb⟩;replace BK101:=O.mk (kz (by solve_by_elim only[BK101.out,qv,qw,qk]) hb);replace HB:=O.mk (zq (by solve_by_elim (maxDepth:=20) only[HB.out,J,L,I,qj,GE101.out]) hb);(try clear hb)))
    go_ret
    exact⟨by first|rfl|(simp[*,zx,zw] <;> rfl),by solve_by_elim (maxDepth:=20) only[HB.out,J,L,I,qj,GE101.out]⟩
  ·rw[if_neg c4] at H;have c4b0:(a0_2.toList == ([]:List UInt8))=false:=beq_eq_false_iff_ne.mpr c4;have c4b1:(a0_2.toList != ([]:List UInt8))=true:=bne_iff_ne.mpr c4;obtain rfl:=Option.some.inj H;go_enter Tryz.func24,Tryz.ntmps24;go_wp2_with (first|((with_reducible refine gate_dst (N:=1) rfl ?_);refine box_event ?hg (N:=1) ?hd (cs:=#[.string a0_0,.int .i64 a0_1,.string a0_2,.int .i64 a0_3,.int .i64 a0_4,.string a0_5,.string a0_6]) (t:=30) ?hr ?_;(case hd=>rfl);(case hg=>rfl);(case hr=>first|(go_simp;done)|(go_simp;rfl));intro gb101 hg w31 hbox hb;have BK101:=O.mk (hbox);have GW101:=O.mk ((by rw[hg];exact(zz (by solve_by_elim only[HB.out,J,L,I])):w.heap.size≤gb101));have GE101:=GW101;replace HB:=O.mk (zq (by solve_by_elim only[HB.out,J,L,I]) hb);clear hb hbox hg;obtain⟨y32_0,y32_1,y32_2,y32_3,y32_4,y32_5,y32_6,z32_0,z32_1,z32_2,z32_3,z32_4,z32_5,z32_6⟩:=bx7f BK101.out)|((with_reducible refine jq (f:=51) rfl ?_);refine goesL_ (some 5) rfl rfl Tryz.func51 (by kernel_rfl) rfl #[.string a0_0] rfl (by(try simp only[jq0,jq1,jq2]);first|done|rfl|(simp only[jq3,jq4];rfl)) ?_;(with_reducible refine(wq.calls k a0_0 true _ A2.out).mono ?_);rintro e w' ⟨rfl,⟨nd,rfl⟩⟩;refine⟨_,rfl,?_⟩))
   go_ret
   exact⟨by first|rfl|(simp[*,zx,zw] <;> rfl),by solve_by_elim (maxDepth:=20) only[HB.out,J,L,I,qj,GE101.out]⟩
 ·replace c3:=jq9.mpr c3;subst c3;have H1:(some false)=some r:=by rw[if_neg (show ¬ (false=true) by decide)] at H;exact H
  clear H;have H:=H1;clear H1;obtain rfl:=Option.some.inj H;go_enter Tryz.func24,Tryz.ntmps24;go_wp2_with (first|((with_reducible refine gate_dst (N:=1) rfl ?_);refine box_event ?hg (N:=1) ?hd (cs:=#[.string a0_0,.int .i64 a0_1,.string a0_2,.int .i64 a0_3,.int .i64 a0_4,.string a0_5,.string a0_6]) (t:=30) ?hr ?_;(case hd=>rfl);(case hg=>rfl);(case hr=>first|(go_simp;done)|(go_simp;rfl));intro gb101 hg w33 hbox hb;have BK101:=O.mk (hbox);have GW101:=O.mk ((by rw[hg];exact(zz (by solve_by_elim only[HB.out,J,L,I])):w.heap.size≤gb101));have GE101:=GW101;replace HB:=O.mk (zq (by solve_by_elim only[HB.out,J,L,I]) hb);clear hb hbox hg;obtain⟨y34_0,y34_1,y34_2,y34_3,y34_4,y34_5,y34_6,z34_0,z34_1,z34_2,z34_3,z34_4,z34_5,z34_6⟩:=bx7f BK101.out)|((with_reducible refine jq (f:=51) rfl ?_);refine goesL_ (some 5) rfl rfl Tryz.func51 (by kernel_rfl) rfl #[.string a0_0] rfl (by(try simp only[jq0,jq1,jq2]);first|done|rfl|(simp only[jq3,jq4];rfl)) ?_;(with_reducible refine(wq.calls k a0_0 false _ A2.out).mono ?_);rintro e w' ⟨rfl,⟨nd,rfl⟩⟩;refine⟨_,rfl,?_⟩))
  go_ret
  exact⟨by first|rfl|(simp[*,zx,zw] <;> rfl),by solve_by_elim (maxDepth:=20) only[HB.out,J,L,I,qj,GE101.out]⟩
end Go.Proofs.YtnbbbjfjkhglhaaGreatDoor.Pr
namespace Go.Proofs.YtnbbbjfjkhglhaaGreatDoor.Pr
open Go.RowKit Go.Shelf Go.Sort Go.Proofs.YtnbbbjfjkhglhaaGreatDoorW.PrintWords Go.Proofs.YtnbbbjfjkhglhaaGreatDoorW.PrintLast Go.Proofs.YtnbbbjfjkhglhaaGreatDoorW.PrintMore
set_option linter.unusedVariables false
set_option linter.unusedSimpArgs false
theorem fu_holds (w:World) (T:TypeId) (nd:Nat) (hs:nd≤24):Holds (fun (b:UInt8)=>Value.int .u8 (b.toNat:Int)) (w.alloc (.cells Lib.zeros24 T)) w.heap.size 0 (Array.replicate nd (0:UInt8)):=fun j hj=>by
 have hj':j < nd:=by simpa using hj
 refine⟨?_,World.frozen?_alloc_new _ _ _ _⟩;rw[World.cell?_alloc_new,Lib.zeros24_at _ (by omega),getElem!_pos _ j hj];simp
theorem fu_fin (w:World) (o:Obj) (dk:Array UInt8) (k:Nat):Below w.heap.size w ((putRow (fun (b:UInt8)=>Value.int .u8 (b.toNat:Int)) (w.alloc o) w.heap.size 0 dk).drewN k):=by
 rw[alloc_eq_grow];obtain⟨os',_,e⟩:=putRow_grow_new (fun (b:UInt8)=>Value.int .u8 (b.toNat:Int)) w #[o] w.heap.size 0 dk (Nat.le_refl _);rw[e];exact Lib.below_grow _ w (Nat.le_refl _) k os'
set_option maxHeartbeats 4000000 in
theorem fuint_calls (u:Nat) (hu64:u < 18446744073709551616) (w:World) (htab:TabW w) :
  Calls Tryz.prog 81 #[.int .u64 (u:Int),.int .i64 10] w fun e w'=>e=.returned (.string ⟨(Lib.decDigits u).toArray⟩)∧Below w.heap.size w w':=by
 by_cases hs:u < 100
 ·have C1:∀ W,Calls Tryz.prog 93 #[.int .i64 (u:Int)] W fun e w'=>e=.returned (.string ⟨(Lib.decDigits u).toArray⟩)∧w'=W:=fun W=>Any.internal_strconv_small { itoaLays with } u hs W
  have C:=O.mk C1;have h1:decide ((u:Int) < 100)=true:=decide_eq_true (by omega);have h1':decide (u < 100)=true:=decide_eq_true hs;have h2:IntKind.i64.wrap (u:Int)=(u:Int):=IntWalk.i64_in _ (by omega);have h3:wrap64 (u:Int)=(u:Int):=by rw[← i64_w];exact h2
  clear C1 htab;go_enter Tryz.func81,Tryz.ntmps81;go_wp2_with (first|(go_at_call 93;refine(C.out _).mono ?_;rintro e w' ⟨rfl,rfl⟩))
  go_ret
  exact⟨rfl,Below.refl _ _⟩
 ·have hu1 : 1≤u:=by omega
  have hnd20:Lib.nDigits u≤20:=by have:=Lib.numDigits_eq u hu1 hu64;split at this <;> omega
  have hal:Tryz.prog.arrayLen 120=24:=by kernel_rfl
  have hsl:∀ W,(Instr.sliceAt 120 (.pointer (some ⟨w.heap.size,0,none⟩)) none (some (.int .i64 (Lib.nDigits u:Int))) none).run Tryz.prog W=.ok (.slice (some ⟨w.heap.size,0,none⟩) (Lib.nDigits u) 24) W:=fun W=>by
   rw[run_sliceAt_array_h W 120 ⟨w.heap.size,0,none⟩ (by simp[Program.arrayLen,Program.elem,Tryz.underlying120]) .i64 (Lib.nDigits u:Int) (by omega) (by rw[hal];omega)];go_simp
  have hH0:=fu_holds w 120 (Lib.nDigits u) (by omega);have hfmt:=Any.internal_strconv_formatBase10 (ρ:=itoaRen) { itoaLays with } w.heap.size 0 24 u (Array.replicate (Lib.nDigits u) 0) (w.alloc (.cells Lib.zeros24 120)) hH0 (by rw[Array.size_replicate];exact Lib.lt_pow_nDigits u) hu64 (by rw[Array.size_replicate];omega);rw[Array.size_replicate] at hfmt;have HF:=O.mk hfmt;have HN:O (Calls Tryz.prog 94 #[.int .u64 (u:Int)] (w.alloc (.cells Lib.zeros24 120)) fun e w'=>e=.returned (.int .i64 (Lib.nDigits u))∧w'=(w.alloc (.cells Lib.zeros24 120))):=⟨Any.internal_strconv_numDigits { itoaLays with } u hu1 hu64 _ (Lib.tabIs_alloc (TabW_pow htab) _)⟩;have HH0:=O.mk hH0;have h1:decide ((u:Int) < 100)=false:=decide_eq_false (by omega);have h1':decide (u < 100)=false:=decide_eq_false hs;clear hH0 hal hfmt htab;go_enter Tryz.func81,Tryz.ntmps81;go_wp2_with (first|(go_at_call 94;go_loud (refine HN.out.mono ?_;rintro e w' ⟨rfl,rfl⟩))|(go_at_call 95;go_loud (refine HF.out.mono ?_;rintro e w' ⟨rfl,k,v',dk,rfl,hF⟩)))
  have hcv:(convert 34 9 (.slice (some ⟨w.heap.size,0,none⟩) (Lib.nDigits u) 24)).run Tryz.prog ((putRow (fun (b:UInt8)=>Value.int .u8 (b.toNat:Int)) (w.alloc (.cells Lib.zeros24 120)) w.heap.size 0 dk).drewN k)=.ok (.string ⟨(Lib.decDigits u).toArray⟩) ((putRow (fun (b:UInt8)=>Value.int .u8 (b.toNat:Int)) (w.alloc (.cells Lib.zeros24 120)) w.heap.size 0 dk).drewN k):=by
   have h:=run_convert_bytes_back (P:=Tryz.prog) ((putRow (fun (b:UInt8)=>Value.int .u8 (b.toNat:Int)) (w.alloc (.cells Lib.zeros24 120)) w.heap.size 0 dk).drewN k) 34 9 5 ⟨w.heap.size,0,none⟩ 24 (Lib.decDigits u) Tryz.underlying34 Tryz.underlying5 Tryz.underlying9 (fun j hj=>by
    rw[Lib.row_is_numeral hF j hj,Lib.add_plain,World.cell?_drewN];exact cell?_putRow (fun (b:UInt8)=>Value.int .u8 (b.toNat:Int)) _ w.heap.size 0 _ dk HH0.out (by rw[hF.size,Array.size_replicate]) j (by rw[hF.size];rw[Lib.decDigits_length] at hj;exact hj))
   rw[Lib.decDigits_length] at h;exact h
  rw[hcv];go_wp2;go_ret
  exact⟨rfl,fu_fin w _ dk k⟩
def qxw.f (n b:Int):Option ByteArray:=if b=10∧0≤n∧n < 18446744073709551616 then some ⟨(Lib.decDigits n.toNat).toArray⟩ else none
theorem qxw.calls (a0 a1:Int) (r:ByteArray) (w:World) (htab:TabW w) (h:qxw.f a0 a1=some r) :
  Calls Tryz.prog 57 #[.int .u64 a0,.int .i64 a1] w fun e w'=>e=.returned (.string r)∧Below w.heap.size w w':=by
 unfold qxw.f at h
 by_cases hr:a1=10∧0≤a0∧a0 < 18446744073709551616
 case neg=>rw[if_neg hr] at h;cases h
 rw[if_pos hr] at h;obtain rfl:=Option.some.inj h;obtain⟨rfl,h0,h1⟩:=hr;obtain⟨u,rfl⟩ : ∃ u:Nat,a0=u:=⟨a0.toNat,by omega⟩;rw[Int.toNat_natCast];have C:=O.mk (fuint_calls u (by omega) w htab);clear htab;go_enter Tryz.func57,Tryz.ntmps57;go_wp2_with (first|(go_at_call 81;go_loud (refine C.out.mono ?_;rintro e w' ⟨rfl,hB⟩)))
 go_ret
 exact⟨rfl,hB⟩
end Go.Proofs.YtnbbbjfjkhglhaaGreatDoor.Pr
namespace Go.Proofs.YtnbbbjfjkhglhaaGreatDoor.Pr
open Go.RowKit Go.Proofs.YtnbbbjfjkhglhaaGreatDoorW.PrintWords Go.Proofs.YtnbbbjfjkhglhaaGreatDoorW.PrintLast Go.Proofs.YtnbbbjfjkhglhaaGreatDoorW.PrintMore
set_option linter.unusedVariables false
set_option linter.unusedSimpArgs false
abbrev nilS:Value:=.slice none 0 0
def bsrG (a b c:Nat) (v34 v92 vT:Value):List Value:=List.replicate a nilS ++ v34 :: (List.replicate b nilS ++ v92 :: (List.replicate c nilS ++ [vT]))
theorem bsrG_len (a b c:Nat) (v34 v92 vT:Value):(bsrG a b c v34 v92 vT).length=a + b + c + 3:=by
 simp only[bsrG,List.length_append,List.length_cons,List.length_replicate,List.length_nil];omega
theorem bsrG_at (a b c:Nat) (v34 v92 vT:Value) (i:Nat) (hi:i < a + b + c + 2):(bsrG a b c v34 v92 vT)[i]? = some (if i=a then v34 else if i=a + 1 + b then v92 else nilS):=by
 unfold bsrG
 by_cases c1:i < a
 ·rw[List.getElem?_append_left (by rw[List.length_replicate];exact c1),List.getElem?_replicate,if_pos c1,if_neg (by omega),if_neg (by omega)]
 rw[List.getElem?_append_right (by rw[List.length_replicate];omega),List.length_replicate]
 by_cases h1:i=a
 ·rw[if_pos h1,show i - a=0 by omega];rfl
 rw[if_neg h1,show i - a=(i - a - 1) + 1 by omega,List.getElem?_cons_succ]
 by_cases c2:i - a - 1 < b
 ·rw[List.getElem?_append_left (by rw[List.length_replicate];exact c2),List.getElem?_replicate,if_pos c2,if_neg (by omega)]
 rw[List.getElem?_append_right (by rw[List.length_replicate];omega),List.length_replicate]
 by_cases h2:i=a + 1 + b
 ·rw[if_pos h2,show i - a - 1 - b=0 by omega];rfl
 rw[if_neg h2,show i - a - 1 - b=(i - a - 1 - b - 1) + 1 by omega,List.getElem?_cons_succ,List.getElem?_append_left (by rw[List.length_replicate];omega),List.getElem?_replicate,if_pos (by omega)]
theorem bsrG_last (a b c:Nat) (v34 v92 vT:Value):(bsrG a b c v34 v92 vT)[a + b + c + 2]? = some vT:=by
 unfold bsrG;rw[List.getElem?_append_right (by rw[List.length_replicate];omega),List.length_replicate,show a + b + c + 2 - a=(b + c + 1) + 1 by omega,List.getElem?_cons_succ,List.getElem?_append_right (by rw[List.length_replicate];omega),List.length_replicate,show b + c + 1 - b=c + 1 by omega,List.getElem?_cons_succ,List.getElem?_append_right (by rw[List.length_replicate];exact Nat.le_refl _),List.length_replicate,Nat.sub_self]
 rfl
theorem bsrG_set1 (a b c:Nat) (v34 v92 vT x:Value):(bsrG a b c v34 v92 vT).set a x=bsrG a b c x v92 vT:=by
 unfold bsrG;rw[List.set_append_right _ _ (by rw[List.length_replicate];exact Nat.le_refl _),List.length_replicate,Nat.sub_self,jq6]
theorem bsrG_set2 (a b c:Nat) (v34 v92 vT x:Value):(bsrG a b c v34 v92 vT).set (a + 1 + b) x=bsrG a b c v34 x vT:=by
 unfold bsrG;rw[List.set_append_right _ _ (by rw[List.length_replicate];omega),List.length_replicate,show a + 1 + b - a=b + 1 by omega,jq7,List.set_append_right _ _ (by rw[List.length_replicate];exact Nat.le_refl _),List.length_replicate,Nat.sub_self,jq6]
theorem bsrG_set3 (a b c:Nat) (v34 v92 vT x:Value):(bsrG a b c v34 v92 vT).set (a + b + c + 2) x=bsrG a b c v34 v92 x:=by
 unfold bsrG;rw[List.set_append_right _ _ (by rw[List.length_replicate];omega),List.length_replicate,show a + b + c + 2 - a=(b + c + 1) + 1 by omega,jq7,List.set_append_right _ _ (by rw[List.length_replicate];omega),List.length_replicate,show b + c + 1 - b=c + 1 by omega,jq7,List.set_append_right _ _ (by rw[List.length_replicate];exact Nat.le_refl _),List.length_replicate,Nat.sub_self,jq6]
def bsr (v34 v92 vT:Value):Array Value:=(bsrG 34 57 163 v34 v92 vT).toArray
theorem bsr_size (v34 v92 vT:Value):(bsr v34 v92 vT).size=257:=by
 unfold bsr;rw[List.size_toArray,bsrG_len]
theorem bsr_at (v34 v92 vT:Value) (i:Nat) (hi:i < 256):(bsr v34 v92 vT)[i]? = some (if i=34 then v34 else if i=92 then v92 else nilS):=by
 unfold bsr;rw[List.getElem?_toArray];exact bsrG_at 34 57 163 v34 v92 vT i hi
theorem bsr_256 (v34 v92 vT:Value):(bsr v34 v92 vT)[256]? = some vT:=by
 unfold bsr;rw[List.getElem?_toArray];exact bsrG_last 34 57 163 v34 v92 vT
theorem bsr_set34 (v34 v92 vT x:Value):(bsr v34 v92 vT).setIfInBounds 34 x=bsr x v92 vT:=by
 unfold bsr;rw[jq5];exact congrArg _ (bsrG_set1 34 57 163 v34 v92 vT x)
theorem bsr_set92 (v34 v92 vT x:Value):(bsr v34 v92 vT).setIfInBounds 92 x=bsr v34 x vT:=by
 unfold bsr;rw[jq5];exact congrArg _ (bsrG_set2 34 57 163 v34 v92 vT x)
theorem bsr_set256 (v34 v92 vT x:Value):(bsr v34 v92 vT).setIfInBounds 256 x=bsr v34 v92 x:=by
 unfold bsr;rw[jq5];exact congrArg _ (bsrG_set3 34 57 163 v34 v92 vT x)
theorem bsr_one (v34 v92 vT:Value) (h1:v34.oneCell'=true) (h2:v92.oneCell'=true) (h3:vT.oneCell'=true):∀ v ∈ (bsr v34 v92 vT).toList,v.oneCell'=true:=by
 intro v hv
 unfold bsr bsrG at hv;simp only[List.mem_append,List.mem_cons,List.mem_replicate,List.not_mem_nil,or_false] at hv
 rcases hv with ⟨_,rfl⟩|rfl|⟨_,rfl⟩|rfl|⟨_,rfl⟩|rfl
 ·rfl
 ·exact h1
 ·rfl
 ·exact h2
 ·rfl
 ·exact h3
end Go.Proofs.YtnbbbjfjkhglhaaGreatDoor.Pr
namespace Go.Proofs.YtnbbbjfjkhglhaaGreatDoor.Pr
open Go.RowKit Go.Proofs.YtnbbbjfjkhglhaaGreatDoorW.PrintWords Go.Proofs.YtnbbbjfjkhglhaaGreatDoorW.PrintLast Go.Proofs.YtnbbbjfjkhglhaaGreatDoorW.PrintMore
set_option linter.unusedVariables false
set_option linter.unusedSimpArgs false
abbrev q92:ByteArray:=⟨#[92]⟩
abbrev q9292:ByteArray:=⟨#[92,92]⟩
abbrev q34:ByteArray:=⟨#[34]⟩
abbrev q9234:ByteArray:=⟨#[92,34]⟩
def Rw2 (W:World) (G:Nat) (v:Value) (a b:Int):Prop:=∃ q c,v=.slice (some ⟨q,0,none⟩) 2 c∧q≠G∧W.cell? ⟨q,0,none⟩ = some (.int .u8 a)∧W.cell? ⟨q,1,none⟩ = some (.int .u8 b)
theorem Rw2.below {W W':World} {G:Nat} {v:Value} {a b:Int} (h:Rw2 W G v a b) (hb:Below W.heap.size W W'):Rw2 W' G v a b:=by
 obtain⟨q,c,e,h1,h2,h3⟩:=h;exact⟨q,c,e,h1,(hb.cell (World.block_lt_of_cell? W _ h2)).trans h2,(hb.cell (World.block_lt_of_cell? W _ h3)).trans h3⟩
theorem Rw2.set {W:World} {G:Nat} {v:Value} {a b:Int} (h:Rw2 W G v a b) (j:Nat) (u:Value):Rw2 (W.setCell ⟨G,j,none⟩ u) G v a b:=by
 obtain⟨q,c,e,h1,h2,h3⟩:=h;exact⟨q,c,e,h1,(World.cell?_setCell_other _ ⟨G,j,none⟩ ⟨q,0,none⟩ _ (fun h=>h1 (congrArg Addr.block h).symm)).trans h2,(World.cell?_setCell_other _ ⟨G,j,none⟩ ⟨q,1,none⟩ _ (fun h=>h1 (congrArg Addr.block h).symm)).trans h3⟩
theorem Rw2.grown {W W':World} {G:Nat} {v:Value} {a b:Int} {row:Option Nat} (h:Rw2 W G v a b) (hg:W.grownBy W' row) (hr:∀ q,W.cell? ⟨q,0,none⟩ = some (.int .u8 a)→some q≠row):Rw2 W' G v a b:=by
 obtain⟨q,c,e,h1,h2,h3⟩:=h;have hb:=hg.block q (World.block_lt_of_cell? W _ h2) (hr q h2);exact⟨q,c,e,h1,(World.cell?_of_block hb).trans h2,(World.cell?_of_block hb).trans h3⟩
theorem row_neQ {W:World} {base q:Nat} {ok:Nat→Prop} {vT:Value} {x:ByteArray} {xs:List ByteArray} {a:Int} (h:Kd.R Kd.string 9 W base ok vT (x :: xs)) (hq:W.cell? ⟨q,0,none⟩ = some (.int .u8 a)):some q≠vT.ownBlock:=by
 intro e
 obtain⟨A,c,rfl⟩:=Kd.R_slice h;obtain⟨ad,e1,hx⟩:=Kd.at_string (Kd.R_reads' h).2.2 0 (by decide) (by simp only[List.length_cons];omega);subst e1;obtain⟨g,rfl⟩:=Kd.R_head h;simp only[Value.ownBlock,Option.some.injEq] at e;subst e;have hx2:W.cell? ⟨q,0,none⟩ = some (.string (rdOf ByteArray.empty (x :: xs) 0)):=hx;rw[hq] at hx2
 cases hx2
def BldSt (W0:World) (G:Nat) (k:Nat) (W:World):Prop:=∃ v34 v92 vT:Value,O (Below W0.heap.size W0 W)∧O (W.heap[G]? = some (.cells (bsr v34 v92 vT) 146 (0,0)))∧O (Kd.R Kd.string 9 W W0.heap.size (fun _=>True) vT (if k=0 then[] else if k=1 then[q34] else[q34,q92]))∧O (if k=0 then v34=nilS else Rw2 W G v34 92 34)∧O (if k=2 then Rw2 W G v92 92 92 else v92=nilS)
set_option maxHeartbeats 4000000 in
theorem build_calls (g0 o c:Nat) (w:World) (h4:w.cell? ⟨g0,4,none⟩ = some (.slice (some ⟨o,0,none⟩) 4 c)) (hs0:w.cell? ⟨o,0,none⟩ = some (.string q92)) (hs1:w.cell? ⟨o,1,none⟩ = some (.string q9292)) (hs2:w.cell? ⟨o,2,none⟩ = some (.string q34)) (hs3:w.cell? ⟨o,3,none⟩ = some (.string q9234)) :
  Calls Tryz.prog 99 #[.pointer (some ⟨g0,0,none⟩)] w fun e w'=>∃ (G:Nat) (v34 v92 vT:Value),e=.returned (.iface 147 (.pointer (some ⟨G,0,none⟩)))∧Below w.heap.size w w'∧w.heap.size≤G∧w'.heap[G]? = some (.cells (bsr v34 v92 vT) 146 (0,0))∧Rw2 w' G v34 92 34∧Rw2 w' G v92 92 92∧Kd.R Kd.string 9 w' w.heap.size (fun _=>True) vT [q34,q92]:=by
 have HS:=O.mk (And.intro hs0 (And.intro hs1 (And.intro hs2 hs3)));clear hs0 hs1 hs2 hs3;have z0:q92.size=1:=rfl;have z1:q9292.size=2:=rfl;have z2:q34.size=1:=rfl;have z3:q9234.size=2:=rfl;go_enter Tryz.func99,Tryz.ntmps99;go_wp2
 go_loopw [4,5] (fun v4 v5 W=>∃ (b:Bool) (n:Int),v4=.bool b∧v5=.int .i64 n∧O (W=w)∧O ((b=true∧n=0)∨(b=false∧n=2)∨(b=false∧n=4))) (fun _ v5 _=>4 - (intOf v5).toNat)
 case atStart=>exact⟨true,0,rfl,rfl,⟨rfl⟩,⟨.inl ⟨rfl,rfl⟩⟩⟩
 case round =>
 obtain⟨b,n,rfl,rfl,HW,HN⟩:=hrel;obtain rfl:=HW.out;obtain⟨hs0,hs1,hs2,hs3⟩:=HS.out
 rcases HN.out with ⟨rfl,rfl⟩|⟨rfl,rfl⟩|⟨rfl,rfl⟩
 ·clear HN;go_wp2;go_roundw
  case rel=>exact⟨false,2,rfl,by first|rfl|go_num,⟨by first|rfl|trivial⟩,⟨.inr (.inl ⟨rfl,rfl⟩)⟩⟩
  case measure=>decide
 ·clear HN;go_wp2;go_roundw
  case rel=>exact⟨false,4,rfl,by first|rfl|go_num,⟨by first|rfl|trivial⟩,⟨.inr (.inr ⟨rfl,rfl⟩)⟩⟩
  case measure=>decide
 clear HN;clear hs0 hs1 hs2 hs3 h4 HW;obtain⟨W0,rfl⟩ : ∃ W0,W0=wr:=⟨_,rfl⟩;have hmk:∀ W:World,(Instr.makeSlice 50 (.int .i64 0) (.int .i64 2)).run Tryz.prog W=.ok (.slice (some ⟨W.heap.size,0,none⟩) 0 2) (W.alloc (.cells #[.string ByteArray.empty,.string ByteArray.empty] 9 (0,0))):=fun W=>by kernel_rfl
 obtain⟨t,et⟩ : ∃ t,t=W0.heap.size:=⟨_,rfl⟩;obtain⟨W1,eW1⟩ : ∃ W,W=W0.alloc (.cells #[.string ByteArray.empty,.string ByteArray.empty] 9 (0,0)):=⟨_,rfl⟩;obtain⟨G,eG⟩ : ∃ G,G=W0.heap.size + 1:=⟨_,rfl⟩;have eG1:W1.heap.size=W0.heap.size + 1:=by rw[eW1];exact Array.size_push ..
 obtain⟨W2,eW2⟩ : ∃ W,W=W1.alloc (.cells Tryz.zeroCells146 146 (0,0)):=⟨_,rfl⟩;obtain⟨W3,eW3⟩ : ∃ W,W=W2.setRow G (bsr nilS nilS (.slice (some ⟨t,0,none⟩) 0 2)):=⟨_,rfl⟩;have hz:Tryz.zeroCells146=bsr nilS nilS nilS:=by kernel_rfl
 have b2:W2.heap[G]? = some (.cells Tryz.zeroCells146 146 (0,0)):=by rw[eW2,eG,← eG1];exact blk_new _ _
 have hst:(storeCells ⟨W0.heap.size + 1,0,none⟩ (Tryz.zeroCells146.toList.set 256 (.slice (some ⟨W0.heap.size,0,none⟩) 0 2))).run Tryz.prog ((W0.alloc (.cells #[.string ByteArray.empty,.string ByteArray.empty] 9 (0,0))).alloc (.cells Tryz.zeroCells146 146 (0,0)))=.ok () W3:=by
  have hl:Tryz.zeroCells146.toList.set 256 (.slice (some ⟨W0.heap.size,0,none⟩) 0 2)=(bsr nilS nilS (.slice (some ⟨t,0,none⟩) 0 2)).toList:=by
   rw[hz,← bsr_set256 nilS nilS nilS (.slice (some ⟨t,0,none⟩) 0 2),Array.toList_setIfInBounds,et]
  rw[hl,← eW1,← eW2,← eG,eW3];have h:=run_storeCells_from (P:=Tryz.prog) G 146 (bsr nilS nilS (.slice (some ⟨t,0,none⟩) 0 2)).toList 0 _ W2 b2 (by rw[Array.length_toList,bsr_size,hz,bsr_size]) (bsr_one _ _ _ rfl rfl rfl)
  simpa only[List.take_zero,List.nil_append,Array.toArray_toList] using h
 have hb1:Below W0.heap.size W0 W1:=by rw[eW1];exact J (Below.refl _ _) _
 have hb2:Below W0.heap.size W0 W2:=by rw[eW2];exact J hb1 _
 have HB:O (Below W0.heap.size W0 W3):=⟨by rw[eW3];exact below_setRow hb2 (by omega) _⟩;have BK:O (W3.heap[G]? = some (.cells (bsr nilS nilS (.slice (some ⟨t,0,none⟩) 0 2)) 146 (0,0))):=⟨by rw[eW3];exact setRow_heap _ _ _ _ _ _ b2⟩;have bt1:W1.heap[t]? = some (.cells #[.string ByteArray.empty,.string ByteArray.empty] 9 (0,0)):=by rw[eW1,et];exact blk_new _ _
 have bt3:W3.heap[t]? = some (.cells #[.string ByteArray.empty,.string ByteArray.empty] 9 (0,0)):=by
  rw[eW3,setRow_other _ _ _ _ (by omega),eW2];exact qk bt1 _
 have RT:O (Kd.R Kd.string 9 W3 W0.heap.size (fun _=>True) (.slice (some ⟨t,0,none⟩) 0 2) []):=⟨⟨fun _ _=>trivial,[],⟨rfl,.inr ⟨t,2,_,rfl,by omega,bt3,Nat.zero_le _,by decide,rfl,rfl⟩⟩,rfl,fun j p h=>by simp at h⟩⟩;have HT:=O.mk et;have HG:=O.mk eG;clear hb1 hb2 bt1 bt3 b2 hz eW1 eW2 eG1;go_wp2;rw[← et,show t + 1=G by omega,← eW3];clear hst hmk eW3 et eG
 go_loopw [12] (fun v12 W=>∃ (k:Nat) (n:Int),v12=.int .i64 n∧O (BldSt W0 G k W)∧O ((k=0∧n=2)∨(k=1∧n=0)∨(k=2∧n = -2))) (fun v12 _=>(intOf v12 + 2).toNat)
 case atStart=>exact⟨0,2,rfl,⟨⟨_,_,_,HB,BK,RT,⟨rfl⟩,⟨rfl⟩⟩⟩,⟨.inl ⟨rfl,rfl⟩⟩⟩
 case round =>
 obtain⟨k,n,rfl,HST,HN⟩:=hrel;obtain⟨v34,v92,vT,HB1,BK1,RT1,H34,H92⟩:=HST.out;clear HB BK RT;have hk3:=HN.out;clear HN HST
 rcases hk3 with ⟨rfl,rfl⟩|⟨rfl,rfl⟩|⟨rfl,rfl⟩
 ·have r34:=H34.out;have r92:=H92.out;simp only[if_true] at r34;rw[if_neg (by decide)] at r92;subst r34 r92;clear H34 H92;have RT2:O (Kd.R Kd.string 9 wr W0.heap.size (fun _=>True) vT []):=⟨RT1.out⟩;clear RT1;have hi0:wr.cell? ⟨o,2,none⟩ = some (.string q34):=(HB1.out.cell (World.block_lt_of_cell? W0 _ HS.out.2.2.1)).trans HS.out.2.2.1;have hi1:wr.cell? ⟨o,3,none⟩ = some (.string q9234):=(HB1.out.cell (World.block_lt_of_cell? W0 _ HS.out.2.2.2)).trans HS.out.2.2.2;have hix:∀ W:World,(Instr.index 9 (.string q34) (.int .i64 0)).run Tryz.prog W=.ok (.int .u8 34) W:=fun W=>by kernel_rfl
  have heq:∀ W:World,(binOp .eql 34 (.slice none 0 0) (.slice none 0 0)).run Tryz.prog W=.ok (.bool true) W:=fun W=>by kernel_rfl
  have hc:wr.cell? ⟨G,34,none⟩ = some (.slice none 0 0):=(qz BK1.out 34).trans (bsr_at _ _ _ 34 (by decide));have hcT:wr.cell? ⟨G,256,none⟩ = some vT:=(qz BK1.out 256).trans (bsr_256 _ _ _);have hf:=qq BK1.out 34;have hfT:=qq BK1.out 256;have HGL:O (G < wr.heap.size):=⟨blk_lt BK1.out⟩
  have hcv:(convert 34 9 (.slice (some ⟨wr.heap.size,0,none⟩) 1 1)).run Tryz.prog (wr.alloc (.cells #[.int .u8 34] 5 (0,0)))=.ok (.string q34) (wr.alloc (.cells #[.int .u8 34] 5 (0,0))):=by
   have h:=run_convert_bytes_arg (P:=Tryz.prog) (wr.alloc (.cells #[.int .u8 34] 5 (0,0))) 34 5 Tryz.underlying34 Tryz.underlying5 wr.heap.size 0 1 1 [34] rfl (fun j hj=>?_) 9 Tryz.underlying9
   ·exact h.trans (by first|rfl|(congr 1))
   ·obtain rfl:j=0:=by simp at hj;omega
    exact(qz (blk_new _ _) 0).trans rfl
  go_wp2_with (first|((with_reducible refine gate_builtin (b:=.append) (xs:=#[.tmp 119,.tmp 123]) rfl ?_);go_loud (at_builtin;refine Kd.R_append Kd.string (w0:=W0) W0.heap.size rfl (.tmp 119) (.tmp 123) 50 9 (.string (⟨#[]⟩ : ByteArray)) 16 rfl Tryz.underlying50 info9 rfl (by decide) (by omega) vT [] q34 [.string q34] (fun _=>True) (fun _=>False) (by first|rfl|(go_simp;done)|(go_simp;rfl)) (by first|rfl|(go_simp;done)|(go_simp;rfl)) ?aP (fun _ hk=>hk.elim) ?aF ?aO ?aB ?aS ?aL ?_;(case aP=>exact rfl);(case aB=>exact(by solve_by_elim only[HB1.out,J,L,I]));(case aF=>exact(fun _ _=>trivial));(case aO=>exact(by solve_by_elim only[RT2.out,Kd.zk,Kd.zj,Kd.zv]));(case aS=>exact(zz (by solve_by_elim only[HB1.out,J,L,I])));(case aL=>exact(by decide));intro v1 w1 ho hb hg hat;clear hat;obtain⟨A1,c1,e1⟩ : ∃ A c,v1=.slice A 1 c:=Kd.R_slice ho;subst e1;have BKa:=O.mk (blk_grown (g:=G) (o:=.cells (bsr nilS nilS vT) 146 (0,0)) (qk BK1.out _) hg (Kd.R_ne RT2.out BK1.out (by decide)));have hcTa:w1.cell? ⟨G,256,none⟩ = some vT:=(qz BKa.out 256).trans (bsr_256 _ _ _);have hfTa:=qq BKa.out 256;have BKb:=O.mk (blk_put BKa.out 256 (.slice A1 1 c1) (bsr_set256 _ _ _ (.slice A1 1 c1)));obtain⟨W5,eW5⟩ : ∃ W,W=Lib.bytesWorld (w1.setCell ⟨G,256,none⟩ (.slice A1 1 c1)) 5 q9234:=⟨_,rfl⟩;obtain⟨cap,ecap⟩ : ∃ c,c=grownCap (w1.setCell ⟨G,256,none⟩ (.slice A1 1 c1)) (q9234).size 0 5:=⟨_,rfl⟩;have hsz:(w1.setCell ⟨G,256,none⟩ (.slice A1 1 c1)).heap.size=w1.heap.size:=(by simp[World.setCell]);have hby:(convert 9 34 (.string q9234)).run Tryz.prog (w1.setCell ⟨G,256,none⟩ (.slice A1 1 c1))=.ok (.slice (some ⟨w1.heap.size,0,none⟩) 2 cap) W5:=(by rw[eW5,ecap,← hsz];exact print_bytes 9 34 5 Tryz.underlying9 Tryz.underlying34 Tryz.underlying5 q9234 _);have HB5:O (Below (w1.setCell ⟨G,256,none⟩ (.slice A1 1 c1)).heap.size (w1.setCell ⟨G,256,none⟩ (.slice A1 1 c1)) W5):=⟨by rw[eW5];exact kx (Below.refl _ _) (Nat.le_refl _) 5 q9234⟩;have BK5:=O.mk (kz BKb.out HB5.out);have hc5:W5.cell? ⟨G,34,none⟩ = some (.slice none 0 0):=(qz BK5.out 34).trans (bsr_at _ _ _ 34 (by decide));have hf5:=qq BK5.out 34;have HQ:O (w1.heap.size≠G):=⟨fun e=>by have:=blk_lt BKa.out;omega⟩;have HC0:O (W5.cell? ⟨w1.heap.size,0,none⟩ = some (.int .u8 92)):=⟨by rw[eW5,← hsz];exact Lib.bytesWorld_cell _ _ _ 0 (by decide)⟩;have HC1:O (W5.cell? ⟨w1.heap.size,1,none⟩ = some (.int .u8 34)):=⟨by rw[eW5,← hsz];exact Lib.bytesWorld_cell _ _ _ 1 (by decide)⟩;have HRT:=O.mk (Kd.R_below (Kd.R_mono (ok':=fun _=>True) (Kd.R_far (p:=⟨G,256,none⟩) (Kd.R_types ho BKa.out (by decide)) (fun _ hk=>hk.2) (.slice A1 1 c1)) (fun _ _=>trivial)) HB5.out);have HBB:=O.mk (zq (qj (g:=G) (j:=256) (v:=(.slice A1 1 c1)) hb (by have:=HT.out;have:=HG.out;show W0.heap.size≤G;omega)) HB5.out);clear ho hb hg eW5 ecap hsz)))
  try simp only[show wrap64 (2 - 2)=0 from rfl]
  go_roundw
  case rel=>exact⟨1,0,by first|rfl|go_num|(simp;done),⟨⟨(.slice (some ⟨w1.heap.size,0,none⟩) 2 cap),nilS,(.slice A1 1 c1),⟨qj (g:=G) (j:=34) (v:=(.slice (some ⟨w1.heap.size,0,none⟩) 2 cap)) HBB.out (by have:=HT.out;have:=HG.out;show W0.heap.size≤G;omega)⟩,⟨blk_put BK5.out 34 _ (bsr_set34 _ _ _ _)⟩,⟨Kd.R_mono (ok':=fun _=>True) (Kd.R_far (p:=⟨G,34,none⟩) (Kd.R_types HRT.out BK5.out (by decide)) (fun _ hk=>hk.2) _) (fun _ _=>trivial)⟩,⟨Rw2.set (⟨w1.heap.size,cap,rfl,HQ.out,HC0.out,HC1.out⟩ : Rw2 W5 G (.slice (some ⟨w1.heap.size,0,none⟩) 2 cap) 92 34) 34 _⟩,⟨rfl⟩⟩⟩,⟨.inr (.inl ⟨rfl,rfl⟩)⟩⟩
  case measure=>first|decide|(simp[intOf];done)|(simp[intOf];omega)
 ·have r34:=H34.out;have r92:=H92.out;rw[if_neg (by decide)] at r34 r92;subst r92;have H34':=O.mk r34;clear r34;clear H34 H92;have RT2:O (Kd.R Kd.string 9 wr W0.heap.size (fun _=>True) vT [q34]):=⟨RT1.out⟩;clear RT1;have hi0:wr.cell? ⟨o,0,none⟩ = some (.string q92):=(HB1.out.cell (World.block_lt_of_cell? W0 _ HS.out.1)).trans HS.out.1;have hi1:wr.cell? ⟨o,1,none⟩ = some (.string q9292):=(HB1.out.cell (World.block_lt_of_cell? W0 _ HS.out.2.1)).trans HS.out.2.1;have hix:∀ W:World,(Instr.index 9 (.string q92) (.int .i64 0)).run Tryz.prog W=.ok (.int .u8 92) W:=fun W=>by kernel_rfl
  have heq:∀ W:World,(binOp .eql 34 (.slice none 0 0) (.slice none 0 0)).run Tryz.prog W=.ok (.bool true) W:=fun W=>by kernel_rfl
  have hc:wr.cell? ⟨G,92,none⟩ = some (.slice none 0 0):=(qz BK1.out 92).trans (bsr_at _ _ _ 92 (by decide));have hcT:wr.cell? ⟨G,256,none⟩ = some vT:=(qz BK1.out 256).trans (bsr_256 _ _ _);have hf:=qq BK1.out 92;have hfT:=qq BK1.out 256;have HGL:O (G < wr.heap.size):=⟨blk_lt BK1.out⟩
  have hcv:(convert 34 9 (.slice (some ⟨wr.heap.size,0,none⟩) 1 1)).run Tryz.prog (wr.alloc (.cells #[.int .u8 92] 5 (0,0)))=.ok (.string q92) (wr.alloc (.cells #[.int .u8 92] 5 (0,0))):=by
   have h:=run_convert_bytes_arg (P:=Tryz.prog) (wr.alloc (.cells #[.int .u8 92] 5 (0,0))) 34 5 Tryz.underlying34 Tryz.underlying5 wr.heap.size 0 1 1 [92] rfl (fun j hj=>?_) 9 Tryz.underlying9
   ·exact h.trans (by first|rfl|(congr 1))
   ·obtain rfl:j=0:=by simp at hj;omega
    exact(qz (blk_new _ _) 0).trans rfl
  go_wp2_with (first|((with_reducible refine gate_builtin (b:=.append) (xs:=#[.tmp 119,.tmp 123]) rfl ?_);go_loud (at_builtin;refine Kd.R_append Kd.string (w0:=W0) W0.heap.size rfl (.tmp 119) (.tmp 123) 50 9 (.string (⟨#[]⟩ : ByteArray)) 16 rfl Tryz.underlying50 info9 rfl (by decide) (by omega) vT [q34] q92 [.string q92] (fun _=>True) (fun _=>False) (by first|rfl|(go_simp;done)|(go_simp;rfl)) (by first|rfl|(go_simp;done)|(go_simp;rfl)) ?aP (fun _ hk=>hk.elim) ?aF ?aO ?aB ?aS ?aL ?_;(case aP=>exact rfl);(case aB=>exact(by solve_by_elim only[HB1.out,J,L,I]));(case aF=>exact(fun _ _=>trivial));(case aO=>exact(by solve_by_elim only[RT2.out,Kd.zk,Kd.zj,Kd.zv]));(case aS=>exact(zz (by solve_by_elim only[HB1.out,J,L,I])));(case aL=>exact(by decide));intro v1 w1 ho hb hg hat;clear hat;obtain⟨A1,c1,e1⟩ : ∃ A c,v1=.slice A 2 c:=Kd.R_slice ho;subst e1;have BKa:=O.mk (blk_grown (g:=G) (o:=.cells (bsr v34 nilS vT) 146 (0,0)) (qk BK1.out _) hg (Kd.R_ne RT2.out BK1.out (by decide)));have hcTa:w1.cell? ⟨G,256,none⟩ = some vT:=(qz BKa.out 256).trans (bsr_256 _ _ _);have hfTa:=qq BKa.out 256;have BKb:=O.mk (blk_put BKa.out 256 (.slice A1 2 c1) (bsr_set256 _ _ _ (.slice A1 2 c1)));obtain⟨W5,eW5⟩ : ∃ W,W=Lib.bytesWorld (w1.setCell ⟨G,256,none⟩ (.slice A1 2 c1)) 5 q9292:=⟨_,rfl⟩;obtain⟨cap,ecap⟩ : ∃ c,c=grownCap (w1.setCell ⟨G,256,none⟩ (.slice A1 2 c1)) (q9292).size 0 5:=⟨_,rfl⟩;have hsz:(w1.setCell ⟨G,256,none⟩ (.slice A1 2 c1)).heap.size=w1.heap.size:=(by simp[World.setCell]);have hby:(convert 9 34 (.string q9292)).run Tryz.prog (w1.setCell ⟨G,256,none⟩ (.slice A1 2 c1))=.ok (.slice (some ⟨w1.heap.size,0,none⟩) 2 cap) W5:=(by rw[eW5,ecap,← hsz];exact print_bytes 9 34 5 Tryz.underlying9 Tryz.underlying34 Tryz.underlying5 q9292 _);have HB5:O (Below (w1.setCell ⟨G,256,none⟩ (.slice A1 2 c1)).heap.size (w1.setCell ⟨G,256,none⟩ (.slice A1 2 c1)) W5):=⟨by rw[eW5];exact kx (Below.refl _ _) (Nat.le_refl _) 5 q9292⟩;have BK5:=O.mk (kz BKb.out HB5.out);have hc5:W5.cell? ⟨G,92,none⟩ = some (.slice none 0 0):=(qz BK5.out 92).trans (bsr_at _ _ _ 92 (by decide));have hf5:=qq BK5.out 92;have HQ:O (w1.heap.size≠G):=⟨fun e=>by have:=blk_lt BKa.out;omega⟩;have HC0:O (W5.cell? ⟨w1.heap.size,0,none⟩ = some (.int .u8 92)):=⟨by rw[eW5,← hsz];exact Lib.bytesWorld_cell _ _ _ 0 (by decide)⟩;have HC1:O (W5.cell? ⟨w1.heap.size,1,none⟩ = some (.int .u8 92)):=⟨by rw[eW5,← hsz];exact Lib.bytesWorld_cell _ _ _ 1 (by decide)⟩;have HRT:=O.mk (Kd.R_below (Kd.R_mono (ok':=fun _=>True) (Kd.R_far (p:=⟨G,256,none⟩) (Kd.R_types ho BKa.out (by decide)) (fun _ hk=>hk.2) (.slice A1 2 c1)) (fun _ _=>trivial)) HB5.out);have HBB:=O.mk (zq (qj (g:=G) (j:=256) (v:=(.slice A1 2 c1)) hb (by have:=HT.out;have:=HG.out;show W0.heap.size≤G;omega)) HB5.out);have H345:=O.mk ((((H34'.out.below (J (Below.refl _ _) _)).grown hg (fun q hq=>row_neQ (Kd.zk RT2.out _) hq)).set 256 (.slice A1 2 c1)).below HB5.out);clear ho hb hg eW5 ecap hsz)))
  try simp only[show wrap64 (0 - 2) = -2 from rfl]
  go_roundw
  case rel=>exact⟨2,-2,by first|rfl|go_num|(simp;done),⟨⟨v34,(.slice (some ⟨w1.heap.size,0,none⟩) 2 cap),(.slice A1 2 c1),⟨qj (g:=G) (j:=92) (v:=(.slice (some ⟨w1.heap.size,0,none⟩) 2 cap)) HBB.out (by have:=HT.out;have:=HG.out;show W0.heap.size≤G;omega)⟩,⟨blk_put BK5.out 92 _ (bsr_set92 _ _ _ _)⟩,⟨Kd.R_mono (ok':=fun _=>True) (Kd.R_far (p:=⟨G,92,none⟩) (Kd.R_types HRT.out BK5.out (by decide)) (fun _ hk=>hk.2) _) (fun _ _=>trivial)⟩,⟨H345.out.set 92 _⟩,⟨Rw2.set (⟨w1.heap.size,cap,rfl,HQ.out,HC0.out,HC1.out⟩ : Rw2 W5 G (.slice (some ⟨w1.heap.size,0,none⟩) 2 cap) 92 92) 92 _⟩⟩⟩,⟨.inr (.inr ⟨rfl,rfl⟩)⟩⟩
  case measure=>first|decide|(simp[intOf];done)|(simp[intOf];omega)
 ·have r34:=H34.out;have r92:=H92.out;rw[if_neg (by decide)] at r34;rw[if_pos rfl] at r92;have RT2:O (Kd.R Kd.string 9 wr W0.heap.size (fun _=>True) vT [q34,q92]):=⟨RT1.out⟩;clear H34 H92 RT1;go_wp2;go_ret
  exact⟨G,v34,v92,vT,rfl,HB1.out,by have:=HT.out;have:=HG.out;omega,BK1.out,r34,r92,RT2.out⟩
end Go.Proofs.YtnbbbjfjkhglhaaGreatDoor.Pr
namespace Go.Proofs.YtnbbbjfjkhglhaaGreatDoor.Pr
open Go.RowKit Go.Proofs.YtnbbbjfjkhglhaaGreatDoorW.PrintWords Go.Proofs.YtnbbbjfjkhglhaaGreatDoorW.PrintLast Go.Proofs.YtnbbbjfjkhglhaaGreatDoorW.PrintMore
set_option linter.unusedVariables false
set_option linter.unusedSimpArgs false
theorem sy_disable (w:World):(callFunc 119 #[]).run Tryz.prog w=.ok (.value (.tuple #[])) w:=run_call_mark0 Tryz.func119 (by kernel_rfl) (by kernel_rfl) (by kernel_rfl) .disable (by kernel_rfl) w
theorem sy_enable (w:World):(callFunc 121 #[]).run Tryz.prog w=.ok (.value (.tuple #[])) w:=run_call_mark0 Tryz.func121 (by kernel_rfl) (by kernel_rfl) (by kernel_rfl) .enable (by kernel_rfl) w
theorem sy_acquire (a:Addr) (w:World):(callFunc 122 #[.pointer (some a)]).run Tryz.prog w=.ok (.value (.tuple #[])) w:=run_call_marked Tryz.func122 (by kernel_rfl) (by kernel_rfl) (by kernel_rfl) .acquire (by kernel_rfl) a w
theorem sy_release (a:Addr) (w:World):(callFunc 124 #[.pointer (some a)]).run Tryz.prog w=.ok (.value (.tuple #[])) w:=run_call_marked Tryz.func124 (by kernel_rfl) (by kernel_rfl) (by kernel_rfl) .releaseMerge (by kernel_rfl) a w
theorem sy_store (a:Addr) (x:Value) (u:FrameMode) (w:World) (hc:w.cell? a=some x) (hz:w.frozen? a=false) :
  CallsD Tryz.prog 108 #[.pointer (some a),.bool true] u w fun e u' w'=>u'=u∧(e=.returned (.tuple #[])∧w'=w.drew.setCell a (.int .u32 1)):=by
 have hc':w.drew.cell? a=some x:=by go_simp
 have hz':w.drew.frozen? a=false:=by go_simp
 have hst:=run_call_store (P:=Tryz.prog) Tryz.func115 (by kernel_rfl) (by kernel_rfl) (by kernel_rfl) (by kernel_rfl) (k:=.u32) (y:=1) hc' hz';go_enter_d Tryz.func108,Tryz.ntmps108
 go_wp2;go_region_calls
 all_goals (go_end0;exact⟨rfl,rfl⟩)
theorem sy_unlock (a:Addr) (u:FrameMode) (w:World) (hc:w.cell? a=some (.int .i32 1)) (hz:w.frozen? a=false) :
  CallsD Tryz.prog 107 #[.pointer (some a)] u w fun e u' w'=>u'=u∧(e=.returned (.tuple #[])∧w'=w.setCell a (.int .i32 0)):=by
 have hd:=sy_disable;have he:=sy_enable;have hr:=sy_release;have hadd:=run_call_add (P:=Tryz.prog) Tryz.func125 (by kernel_rfl) (by kernel_rfl) (by kernel_rfl) .i32 (by kernel_rfl) (y:=-1) (s:=0) hc hz (by simp[go_sem];rfl);have hcv:=run_convert_to_unsafe (P:=Tryz.prog) (src:=165) (dst:=94) Tryz.underlying165 Tryz.underlying94 (by kernel_rfl) hc;go_enter_d Tryz.func107,Tryz.ntmps107
 go_wp2;go_end0
 go_wp2;go_end0
 exact⟨rfl,rfl⟩
theorem sy_lock (a:Addr) (w:World) (hc:w.cell? a=some (.int .i32 0)) (hz:w.frozen? a=false) :
  Calls Tryz.prog 106 #[.pointer (some a)] w fun e w'=>e=.returned (.tuple #[])∧w'=w.setCell a (.int .i32 1):=by
 have hd:=sy_disable;have he:=sy_enable;have ha:=sy_acquire;have hcas:=run_call_cas_hit (P:=Tryz.prog) Tryz.func120 (by kernel_rfl) (by kernel_rfl) (by kernel_rfl) .i32 (by kernel_rfl) (y:=1) hc hz;have hc':(w.setCell a (.int .i32 1)).cell? a=some (.int .i32 1):=World.cell?_setCell_same w a _ hc;have hcv:=run_convert_to_unsafe (P:=Tryz.prog) (src:=165) (dst:=94) Tryz.underlying165 Tryz.underlying94 (by kernel_rfl) hc';go_enter Tryz.func106,Tryz.ntmps106;go_wp2
 first|go_end0|(simp only[Exit.inBlock,Exit.then];refine bodyPost_ret (results_none rfl _ _ _) rfl ?_)|refine bodyPost_ret (results_none rfl _ _ _) rfl ?_
 go_wp2;go_end0
 exact⟨rfl,rfl⟩
theorem sy_load0 (a:Addr) (w:World) (hc:w.cell? a=some (.int .u32 0)) :
  Calls Tryz.prog 97 #[.pointer (some a)] w fun e w'=>e=.returned (.bool false)∧w'=w:=by
 have hl:=run_call_load (P:=Tryz.prog) Tryz.func105 (by kernel_rfl) (by kernel_rfl) (by kernel_rfl) .u32 (by kernel_rfl) hc;go_enter Tryz.func97,Tryz.ntmps97;go_wp2;go_ret
 exact⟨rfl,rfl⟩
def onceEnd (b off:Nat) (w1:World):World:=(w1.drew.setCell ⟨b,off,none⟩ (.int .u32 1)).setCell ⟨b,off + 1,none⟩ (.int .i32 0)
set_option maxHeartbeats 1600000 in
theorem sy_slow (b off:Nat) (p:Addr) (w:World) (Q:World→Prop) (h0:w.cell? ⟨b,off,none⟩ = some (.int .u32 0)) (h1:w.cell? ⟨b,off + 1,none⟩ = some (.int .i32 0)) (f1:w.frozen? ⟨b,off + 1,none⟩ = false)
  (hF:Calls Tryz.prog 92 #[.pointer (some p)] (w.setCell ⟨b,off + 1,none⟩ (.int .i32 1)) fun e w'=>e=.returned (.tuple #[])∧Q w'∧w'.cell? ⟨b,off,none⟩ = some (.int .u32 0)∧w'.cell? ⟨b,off + 1,none⟩ = some (.int .i32 1)∧w'.frozen? ⟨b,off,none⟩ = false∧w'.frozen? ⟨b,off + 1,none⟩ = false) :
  Calls Tryz.prog 98 #[.pointer (some ⟨b,off,none⟩),.func (.func 92) #[.pointer (some p)] #[]] w fun e w'=>e=.returned (.tuple #[])∧∃ w1,Q w1∧w'=onceEnd b off w1:=by
 have hl0:(w.setCell ⟨b,off + 1,none⟩ (.int .i32 1)).cell? ⟨b,off,none⟩ = some (.int .u32 0):=(World.cell?_setCell_other _ ⟨b,off + 1,none⟩ ⟨b,off,none⟩ _ (by simp)).trans h0;have hnot:∀ (x:Bool) (w:World),(Op.unary .not (.bool x)).run Tryz.prog w=.ok (.bool (!x)) w:=fun _ _=>rfl
 have eg:Enters Tryz.prog 92:=enters_of Tryz.func92 (by kernel_rfl) rfl;have HF:=O.mk hF;clear hF;go_enter_defers Tryz.func98,Tryz.ntmps98
 go_wp2_with (first|(go_at_call 106;refine(sy_lock ⟨b,off + 1,none⟩ _ (by go_simp) (by go_simp)).mono ?_;rintro e w' ⟨rfl,rfl⟩)|(go_at_call 92;refine HF.out.mono ?_;rintro e w2 ⟨rfl,hQ,k0,k1,k2,k3⟩)|(go_at_call 97;refine(sy_load0 ⟨b,off,none⟩ _ hl0).mono ?_;rintro e w' ⟨rfl,rfl⟩))
 refine leaves_cons (f:=108) (args:=#[.pointer (some ⟨b,off,none⟩),.bool true]) (by simp) (by simp[go_sem]) ?_;refine(sy_store ⟨b,off,none⟩ (.int .u32 0) .returning _ k0 k2).mono ?_
 rintro e u' w'' ⟨rfl,rfl,rfl⟩
 refine leaves_cons (f:=107) (args:=#[.pointer (some ⟨b,off + 1,none⟩)]) (by simp[settle]) (by simp[go_sem]) ?_;refine(sy_unlock ⟨b,off + 1,none⟩ _ _ ?_ (by simp[k3])).mono ?_
 ·refine(World.cell?_setCell_other _ ⟨b,off,none⟩ ⟨b,off + 1,none⟩ _ (by simp)).trans ?_;rw[World.cell?_drew];exact k1
 rintro e u' w'' ⟨rfl,rfl,rfl⟩
 simp only[Leaves,settle,results,Tryz.results98];exact⟨.tuple #[],by simp,rfl,w2,hQ,rfl⟩
set_option maxHeartbeats 1600000 in
theorem sy_do (b off:Nat) (p:Addr) (w:World) (Q:World→Prop) (h0:w.cell? ⟨b,off,none⟩ = some (.int .u32 0)) (h1:w.cell? ⟨b,off + 1,none⟩ = some (.int .i32 0)) (f1:w.frozen? ⟨b,off + 1,none⟩ = false)
  (hF:Calls Tryz.prog 92 #[.pointer (some p)] (w.setCell ⟨b,off + 1,none⟩ (.int .i32 1)) fun e w'=>e=.returned (.tuple #[])∧Q w'∧w'.cell? ⟨b,off,none⟩ = some (.int .u32 0)∧w'.cell? ⟨b,off + 1,none⟩ = some (.int .i32 1)∧w'.frozen? ⟨b,off,none⟩ = false∧w'.frozen? ⟨b,off + 1,none⟩ = false) :
  Calls Tryz.prog 91 #[.pointer (some ⟨b,off,none⟩),.func (.func 92) #[.pointer (some p)] #[]] w fun e w'=>e=.returned (.tuple #[])∧∃ w1,Q w1∧w'=onceEnd b off w1:=by
 have HS:=O.mk (sy_slow b off p w Q h0 h1 f1 hF);have hnot:∀ (x:Bool) (w:World),(Op.unary .not (.bool x)).run Tryz.prog w=.ok (.bool (!x)) w:=fun _ _=>rfl
 clear hF;go_enter Tryz.func91,Tryz.ntmps91;go_wp2_with (first|(go_at_call 98;refine HS.out.mono ?_;rintro e w1 ⟨rfl,w2,hQ,rfl⟩)|(go_at_call 97;refine(sy_load0 ⟨b,off,none⟩ _ h0).mono ?_;rintro e w' ⟨rfl,rfl⟩))
 go_end0
 exact⟨rfl,_,hQ,rfl⟩
end Go.Proofs.YtnbbbjfjkhglhaaGreatDoor.Pr
namespace Go.Proofs.YtnbbbjfjkhglhaaGreatDoor.Pr
open Go.RowKit Go.Proofs.YtnbbbjfjkhglhaaGreatDoorW.PrintWords Go.Proofs.YtnbbbjfjkhglhaaGreatDoorW.PrintLast Go.Proofs.YtnbbbjfjkhglhaaGreatDoorW.PrintMore
set_option linter.unusedVariables false
set_option linter.unusedSimpArgs false
def RepOk (W:World) (G:Nat):Prop:=∃ v34 v92 vT:Value,W.heap[G]? = some (.cells (bsr v34 v92 vT) 146 (0,0))∧Rw2 W G v34 92 34∧Rw2 W G v92 92 92∧∃ t c,vT=.slice (some ⟨t,0,none⟩) 2 c∧W.cell? ⟨t,0,none⟩ = some (.string q34)∧W.cell? ⟨t,1,none⟩ = some (.string q92)
theorem RepOk.below {W W':World} {G:Nat} (h:RepOk W G) (hb:Below W.heap.size W W'):RepOk W' G:=by
 obtain⟨v34,v92,vT,h1,h2,h3,t,c,e,h4,h5⟩:=h;exact⟨v34,v92,vT,kz h1 hb,h2.below hb,h3.below hb,t,c,e,(hb.cell (World.block_lt_of_cell? W _ h4)).trans h4,(hb.cell (World.block_lt_of_cell? W _ h5)).trans h5⟩
theorem Rw2.other {W:World} {G g0 j:Nat} {v u:Value} {a b:Int} (h:Rw2 W G v a b) (h0:∃ n,W.cell? ⟨g0,0,none⟩ = some (.int .u32 n)):Rw2 (W.setCell ⟨g0,j,none⟩ u) G v a b:=by
 obtain⟨q,c,e,h1,h2,h3⟩:=h;obtain⟨n,h0⟩:=h0;have hne:g0≠q:=by rintro rfl;rw[h2] at h0;cases h0
 exact⟨q,c,e,h1,(World.cell?_setCell_other _ ⟨g0,j,none⟩ ⟨q,0,none⟩ _ (fun h=>hne (congrArg Addr.block h))).trans h2,(World.cell?_setCell_other _ ⟨g0,j,none⟩ ⟨q,1,none⟩ _ (fun h=>hne (congrArg Addr.block h))).trans h3⟩
theorem RepOk.other {W:World} {G g0 j:Nat} {u:Value} {cs:Array Value} (h:RepOk W G) (hg:W.heap[g0]? = some (.cells cs 118 (0,0))) (h0:∃ n,cs[0]? = some (.int .u32 n)):RepOk (W.setCell ⟨g0,j,none⟩ u) G:=by
 obtain⟨n,h0⟩:=h0;have hc:W.cell? ⟨g0,0,none⟩ = some (.int .u32 n):=(qz hg 0).trans h0;obtain⟨v34,v92,vT,h1,h2,h3,t,c,e,h4,h5⟩:=h;have hne:g0≠t:=by rintro rfl;rw[h4] at hc;cases hc
 have hG:G≠g0:=blk_ne h1 hg (by decide);exact⟨v34,v92,vT,(Below.heap_setCell W ⟨g0,j,none⟩ u G hG).trans h1,h2.other ⟨n,hc⟩,h3.other ⟨n,hc⟩,t,c,e,(World.cell?_setCell_other _ ⟨g0,j,none⟩ ⟨t,0,none⟩ _ (fun h=>hne (congrArg Addr.block h))).trans h4,(World.cell?_setCell_other _ ⟨g0,j,none⟩ ⟨t,1,none⟩ _ (fun h=>hne (congrArg Addr.block h))).trans h5⟩
def rplC (d m:Int) (r on:Value):Array Value:=#[.int .u32 d,.int .i32 m,.int .u32 0,r,on]
set_option maxHeartbeats 4000000 in
theorem buildOnce_calls (b0 g0 o c:Nat) (w:World) (hb0:b0≤g0) (hg:w.heap[g0]? = some (.cells (rplC 0 1 .nilIface (.slice (some ⟨o,0,none⟩) 4 c)) 118 (0,0))) (hs0:w.cell? ⟨o,0,none⟩ = some (.string q92)) (hs1:w.cell? ⟨o,1,none⟩ = some (.string q9292)) (hs2:w.cell? ⟨o,2,none⟩ = some (.string q34)) (hs3:w.cell? ⟨o,3,none⟩ = some (.string q9234)) :
  Calls Tryz.prog 92 #[.pointer (some ⟨g0,0,none⟩)] w fun e w'=>e=.returned (.tuple #[])∧∃ G:Nat,w'.heap[g0]? = some (.cells (rplC 0 1 (.iface 147 (.pointer (some ⟨G,0,none⟩))) (.slice none 0 0)) 118 (0,0))∧RepOk w' G∧Below b0 w w':=by
 have HC:=O.mk (build_calls g0 o c w ((qz hg 4).trans rfl) hs0 hs1 hs2 hs3);have HG:=O.mk hg;have HL:=O.mk hb0;clear hg hs0 hs1 hs2 hs3;go_enter Tryz.func92,Tryz.ntmps92;go_wp2_with (first|(go_at_call 99;refine HC.out.mono ?_;rintro e w1 ⟨G,v34,v92,vT,rfl,hb,hG,hbk,r34,r92,rT⟩;have BK1:=O.mk (kz HG.out hb);have RO:O (RepOk w1 G):=⟨⟨v34,v92,vT,hbk,r34,r92,by obtain⟨A,cc,rfl⟩:=Kd.R_slice rT;obtain⟨ad,e1,hx⟩:=Kd.at_string (Kd.R_reads' rT).2.2 0 (by decide) (by decide);subst e1;obtain⟨t,rfl⟩:=Kd.R_head rT;obtain⟨ad2,e2,hx2⟩:=Kd.at_string (Kd.R_reads' rT).2.2 1 (by decide) (by decide);cases e2;exact⟨t,cc,rfl,hx,hx2⟩⟩⟩;have HB1:O (Below b0 w w1):=⟨hb.mono (by have:=blk_lt HG.out;have:=HL.out;omega)⟩;clear hb hG hbk r34 r92 rT;have hc3:w1.cell? ⟨g0,3,none⟩ = some .nilIface:=(qz BK1.out 3).trans rfl;have hf3:=qq BK1.out 3;have hc4:w1.cell? ⟨g0,4,none⟩ = some (.slice (some ⟨o,0,none⟩) 4 c):=(qz BK1.out 4).trans rfl;have hf4:=qq BK1.out 4))
 first|go_end0|go_ret
 have BK3:=blk_put (cs':=rplC 0 1 (.iface 147 (.pointer (some ⟨G,0,none⟩))) (.slice (some ⟨o,0,none⟩) 4 c)) BK1.out 3 (.iface 147 (.pointer (some ⟨G,0,none⟩))) rfl;have RO3:=RO.out.other (j:=3) (u:=(.iface 147 (.pointer (some ⟨G,0,none⟩)))) BK1.out ⟨0,rfl⟩;have BK4:=blk_put (cs':=rplC 0 1 (.iface 147 (.pointer (some ⟨G,0,none⟩))) (.slice none 0 0)) BK3 4 (.slice none 0 0) rfl;have RO4:=RO3.other (j:=4) (u:=.slice none 0 0) BK3 ⟨0,rfl⟩;exact⟨rfl,G,BK4,RO4,(HB1.out.setCell (p:=⟨g0,3,none⟩) HL.out _).setCell (p:=⟨g0,4,none⟩) HL.out _⟩
set_option maxHeartbeats 4000000 in
theorem newReplacer_calls (A0:Option Addr) (c0:Nat) (w:World) (hC:Kd.C Kd.string w A0 4 [q92,q9292,q34,q9234]) :
  Calls Tryz.prog 79 #[.slice A0 4 c0] w fun e w'=>∃ g0 o c:Nat,e=.returned (.pointer (some ⟨g0,0,none⟩))∧Below w.heap.size w w'∧w.heap.size≤g0∧w'.heap[g0]? = some (.cells (rplC 0 0 .nilIface (.slice (some ⟨o,0,none⟩) 4 c)) 118 (0,0))∧w'.cell? ⟨o,0,none⟩ = some (.string q92)∧w'.cell? ⟨o,1,none⟩ = some (.string q9292)∧w'.cell? ⟨o,2,none⟩ = some (.string q34)∧w'.cell? ⟨o,3,none⟩ = some (.string q9234):=by
 have HC:=O.mk hC;have e5:Int.tmod 4 2=0:=rfl;go_enter Tryz.func79,Tryz.ntmps79;go_wp2_with (first|((with_reducible refine gate_builtin (b:=.append) (xs:=#[.const (.slice none 0 0),.tmp 8]) rfl ?_);go_loud (at_builtin;refine Kd.R_append_row Value.string (⟨#[]⟩ : ByteArray) (h1:=fun _=>rfl) (w0:=w) w.heap.size rfl (.const (.slice none 0 0)) (.tmp 8) 50 9 (.string (⟨#[]⟩ : ByteArray)) 16 rfl Tryz.underlying50 info9 rfl (by decide) (.slice none 0 0) [] [q92,q9292,q34,q9234] A0 4 c0 (fun _=>True) rfl rfl (fun _ _=>trivial) (Kd.R_nil _ _ _ _ _) HC.out (Below.refl _ _) (Nat.le_refl _) (by decide) ?_;intro v1 w1 ho hb hg hat;clear hg hat;obtain⟨A1,c1,e1⟩ : ∃ A c,v1=.slice A 4 c:=Kd.R_slice ho;subst e1;have HO:=O.mk ho;have HB:=O.mk hb;clear ho hb)))
 go_ret
 have hR:Kd.R Kd.string 9 w1 w.heap.size (fun _=>True) (.slice A1 4 c1) [q92,q9292,q34,q9234]:=HO.out;obtain⟨ad,e1,hx0⟩:=Kd.at_string (Kd.R_reads' hR).2.2 0 (by decide) (by decide);subst e1;obtain⟨o,rfl⟩:=Kd.R_head hR;obtain⟨ad,e1,hx1⟩:=Kd.at_string (Kd.R_reads' hR).2.2 1 (by decide) (by decide)
 cases e1
 obtain⟨ad,e1,hx2⟩:=Kd.at_string (Kd.R_reads' hR).2.2 2 (by decide) (by decide)
 cases e1
 obtain⟨ad,e1,hx3⟩:=Kd.at_string (Kd.R_reads' hR).2.2 3 (by decide) (by decide)
 cases e1
 have hal:=fun (o:Obj)=>J (Below.refl w1.heap.size w1) o
 exact⟨w1.heap.size,o,c1,rfl,J HB.out _,HB.out.size,blk_new _ _,((hal _).cell (World.block_lt_of_cell? w1 _ hx0)).trans hx0,((hal _).cell (World.block_lt_of_cell? w1 _ hx1)).trans hx1,((hal _).cell (World.block_lt_of_cell? w1 _ hx2)).trans hx2,((hal _).cell (World.block_lt_of_cell? w1 _ hx3)).trans hx3⟩
end Go.Proofs.YtnbbbjfjkhglhaaGreatDoor.Pr
namespace Go.Proofs.YtnbbbjfjkhglhaaGreatDoor.Pr
open Go.RowKit Go.Proofs.YtnbbbjfjkhglhaaGreatDoorW.PrintWords
set_option linter.unusedVariables false
def escU (b:UInt8):List UInt8:=if b=34∨b=92 then[92,b] else[b]
def escQ (s:ByteArray):List UInt8:=s.data.toList.flatMap escU
def escB (s:ByteArray):ByteArray:=⟨(escQ s).toArray⟩
def ofs (s:ByteArray) (i:Nat):Nat:=((s.data.toList.take i).flatMap escU).length
theorem escU_len (b:UInt8):(escU b).length=1∨(escU b).length=2:=by unfold escU;split <;> simp
theorem escL_ge:∀ l:List UInt8,l.length≤(l.flatMap escU).length
 | []=>Nat.le_refl _
 | b :: l=>by
  have:=escL_ge l;have:=escU_len b;rw[List.flatMap_cons,List.length_append,List.length_cons]
  omega
theorem escL_eq:∀ l:List UInt8,(l.flatMap escU).length=l.length→l.flatMap escU=l
 | [],_=>rfl
 | b :: l,h=>by
  have h1:=escL_ge l;have h2:=escU_len b;rw[List.flatMap_cons,List.length_append,List.length_cons] at h
  by_cases hb:b=34∨b=92
  ·have h3:(escU b).length=2:=by unfold escU;rw[if_pos hb];rfl
   omega
  ·have h3:escU b=[b]:=by unfold escU;rw[if_neg hb]
   rw[h3,List.length_singleton] at h;rw[List.flatMap_cons,escL_eq l (by omega),h3]
   rfl
theorem ofs_zero (s:ByteArray):ofs s 0=0:=by simp[ofs]
theorem ofs_step (s:ByteArray) (i:Nat) (h:i < s.data.toList.length):ofs s (i + 1)=ofs s i + (escU s.data.toList[i]).length:=by
 unfold ofs;rw[List.take_succ_eq_append_getElem h,List.flatMap_append,List.length_append];simp
theorem ofs_end (s:ByteArray):ofs s s.size=(escQ s).length:=by
 unfold ofs escQ;rw[List.take_of_length_le (by rw[data_length];exact Nat.le_refl _)]
theorem ofs_ge (s:ByteArray) (i:Nat) (h:i≤s.size):i≤ofs s i:=by
 have:=escL_ge (s.data.toList.take i);rw[jq4,data_length] at this;unfold ofs
 omega
theorem ofs_le (s:ByteArray) (i:Nat) (h:i≤s.size):ofs s i≤2 * i:=by
 induction i with
 | zero=>rw[ofs_zero];exact Nat.le_refl _
 | succ i ih =>
  rw[ofs_step s i (by rw[data_length];omega)];have:=ih (by omega);have:=escU_len (s.data.toList[i]'(by rw[data_length];omega))
  omega
theorem ofs_mono (s:ByteArray) (i d:Nat) (h:i + d≤s.size):ofs s i + d≤ofs s (i + d):=by
 induction d with
 | zero=>exact Nat.le_refl _
 | succ d ih =>
  have:=ih (by omega);rw[show i + (d + 1)=(i + d) + 1 from rfl,ofs_step s (i + d) (by rw[data_length];omega)];have:=escU_len (s.data.toList[i + d]'(by rw[data_length];omega))
  omega
theorem escQ_split (s:ByteArray) (i:Nat) (h:i < s.data.toList.length):escQ s=(s.data.toList.take i).flatMap escU ++ (escU s.data.toList[i] ++ (s.data.toList.drop (i + 1)).flatMap escU):=by
 unfold escQ
 conv=>lhs;rw[← List.take_append_drop i s.data.toList,List.drop_eq_getElem_cons h]
 rw[List.flatMap_append,List.flatMap_cons]
theorem escQ_at (s:ByteArray) (i d:Nat) (h:i < s.data.toList.length) (hd:d < (escU s.data.toList[i]).length):(escQ s)[ofs s i + d]? = (escU s.data.toList[i])[d]?:=by
 rw[escQ_split s i h,List.getElem?_append_right (by unfold ofs;omega)];rw[show ofs s i + d - ((s.data.toList.take i).flatMap escU).length=d by unfold ofs;omega,List.getElem?_append_left hd]
theorem countB_cons (b c:UInt8) (l:List UInt8):Lib.countByte (b :: l) c=(if b=c then 1 else 0) + Lib.countByte l c:=by
 unfold Lib.countByte;rw[List.count_cons]
 by_cases h:b=c
 ·subst h;simp;omega
 ·simp[h]
theorem escL_count:∀ l:List UInt8,(l.flatMap escU).length=l.length + Lib.countByte l 34 + Lib.countByte l 92
 | []=>rfl
 | b :: l=>by
  rw[List.flatMap_cons,List.length_append,escL_count l,List.length_cons,countB_cons,countB_cons];unfold escU
  by_cases h1:b=34
  ·subst h1;simp;omega
  by_cases h2:b=92
  ·subst h2;simp;omega
  rw[if_neg (by rintro (h|h) <;> contradiction),if_neg h1,if_neg h2];simp only[List.length_cons,List.length_nil];omega
end Go.Proofs.YtnbbbjfjkhglhaaGreatDoor.Pr
namespace Go.Proofs.YtnbbbjfjkhglhaaGreatDoor.Pr
open Go.RowKit Go.Proofs.YtnbbbjfjkhglhaaGreatDoorW.PrintWords Go.Proofs.YtnbbbjfjkhglhaaGreatDoorW.PrintLast Go.Proofs.YtnbbbjfjkhglhaaGreatDoorW.PrintMore
set_option linter.unusedVariables false
set_option linter.unusedSimpArgs false
set_option maxHeartbeats 1000000 in
theorem count_calls (s:ByteArray) (c:UInt8) (w:World) :
  Calls Tryz.prog 167 #[.string s,.string ⟨#[c]⟩] w fun e w'=>e=.returned (.int .i64 (Lib.countByte s.data.toList c))∧w'=w:=by
 go_enter Tryz.func167,Tryz.ntmps167;go_wp2;rw[run_callFunc_extern Tryz.func169 (by kernel_rfl) (by kernel_rfl) (by kernel_rfl) (e:=Extern.BytealgCount.count) (by kernel_rfl),Lib.run_countString];simp only[Result.andThen];rw[Oper.upon_value];go_wp2;go_ret
 exact⟨rfl,rfl⟩
theorem rep_cell {W:World} {G:Nat} {v34 v92 vT:Value} (h:W.heap[G]? = some (.cells (bsr v34 v92 vT) 146 (0,0))) (i:Nat) (hi:i < 256):W.cell? ⟨G,i,none⟩ = some (if i=34 then v34 else if i=92 then v92 else nilS):=(qz h i).trans (bsr_at _ _ _ i hi)
def bufV (s:ByteArray) (i p:Nat):Value:=.int .u8 (if p < ofs s i then(((escQ s).getD p 0).toNat:Int) else 0)
def bufA (s:ByteArray) (i:Nat):Array Value:=((List.range (ofs s s.size)).map (bufV s i)).toArray
theorem bufA_size (s:ByteArray) (i:Nat):(bufA s i).size=ofs s s.size:=by simp[bufA]
theorem bufA_at (s:ByteArray) (i p:Nat):(bufA s i)[p]? = if p < ofs s s.size then some (bufV s i p) else none:=by
 unfold bufA;rw[List.getElem?_toArray,List.getElem?_map]
 by_cases h:p < ofs s s.size
 ·rw[List.getElem?_range h,if_pos h];rfl
 ·rw[List.getElem?_eq_none (by rw[List.length_range];omega),if_neg h];rfl
theorem bufA_made (s:ByteArray):madeCells #[.int .u8 0] (ofs s s.size)=bufA s 0:=by
 apply Array.ext_getElem?
 intro p
 rw[bufA_at]
 by_cases h:p < ofs s s.size
 ·rw[if_pos h,Array.getElem?_eq_getElem (by rw[size_madeCells];exact h)];simp[madeCells,bufV,ofs_zero,Nat.mod_one]
 ·rw[if_neg h,Array.getElem?_eq_none (by rw[size_madeCells];omega)]
theorem bufA_put1 (s:ByteArray) (i:Nat) (x:Int) (h1:ofs s (i + 1)=ofs s i + 1) (hx:(((escQ s).getD (ofs s i) 0).toNat:Int)=x):(bufA s i).setIfInBounds (ofs s i) (.int .u8 x)=bufA s (i + 1):=by
 apply Array.ext_getElem?
 intro p
 rw[Array.getElem?_setIfInBounds,bufA_at,bufA_at,bufA_size]
 by_cases hp:ofs s i=p
 ·subst hp;rw[if_pos rfl]
  by_cases h:ofs s i < ofs s s.size
  ·rw[if_pos h,if_pos h];unfold bufV;rw[if_pos (by omega),hx]
  ·rw[if_neg h,if_neg h]
 ·rw[if_neg hp]
  by_cases h:p < ofs s s.size
  ·rw[if_pos h,if_pos h];unfold bufV
   by_cases h2:p < ofs s i
   ·rw[if_pos h2,if_pos (by omega)]
   ·rw[if_neg h2,if_neg (by omega)]
  ·rw[if_neg h,if_neg h]
theorem bufA_put2 (s:ByteArray) (i:Nat) (x y:Int) (h1:ofs s (i + 1)=ofs s i + 2) (hx:(((escQ s).getD (ofs s i) 0).toNat:Int)=x) (hy:(((escQ s).getD (ofs s i + 1) 0).toNat:Int)=y):((bufA s i).setIfInBounds (ofs s i) (.int .u8 x)).setIfInBounds (ofs s i + 1) (.int .u8 y)=bufA s (i + 1):=by
 apply Array.ext_getElem?
 intro p
 rw[Array.getElem?_setIfInBounds,Array.getElem?_setIfInBounds,Array.size_setIfInBounds,bufA_at,bufA_at,bufA_size]
 by_cases hp:ofs s i + 1=p
 ·subst hp;rw[if_pos rfl]
  by_cases h:ofs s i + 1 < ofs s s.size
  ·rw[if_pos h,if_pos h];unfold bufV;rw[if_pos (by omega),hy]
  ·rw[if_neg h,if_neg h]
 rw[if_neg hp]
 by_cases hp:ofs s i=p
 ·subst hp;rw[if_pos rfl]
  by_cases h:ofs s i < ofs s s.size
  ·rw[if_pos h,if_pos h];unfold bufV;rw[if_pos (by omega),hx]
  ·rw[if_neg h,if_neg h]
 ·rw[if_neg hp]
  by_cases h:p < ofs s s.size
  ·rw[if_pos h,if_pos h];unfold bufV
   by_cases h2:p < ofs s i
   ·rw[if_pos h2,if_pos (by omega)]
   ·rw[if_neg h2,if_neg (by omega)]
  ·rw[if_neg h,if_neg h]
theorem escQ_getD (s:ByteArray) (i d:Nat) (h:i < s.data.toList.length) (hd:d < (escU s.data.toList[i]).length):(escQ s).getD (ofs s i + d) 0=(escU s.data.toList[i])[d]:=by
 rw[List.getD_eq_getElem?_getD,escQ_at s i d h hd,List.getElem?_eq_getElem hd]
 rfl
theorem buf_str (s:ByteArray):strOfNums ((List.range (ofs s s.size)).map fun p=>(((escQ s).getD p 0).toNat:Int))=escB s:=by
 unfold strOfNums escB
 congr 2
 apply List.ext_getElem
 ·simp[ofs_end]
 ·intro i h1 h2
  simp only[List.length_map,List.length_range] at h1;have hl:i < (escQ s).length:=by rw[← ofs_end];exact h1
  simp only[List.getElem_map,List.getElem_range];rw[Int.toNat_natCast,UInt8.ofNat_toNat,List.getD_eq_getElem?_getD,List.getElem?_eq_getElem hl]
  rfl
theorem bsrReplace_calls (G:Nat) (s:ByteArray) (w:World) (hR:RepOk w G) (hs:s.size≤1000000) :
  Calls Tryz.prog 165 #[.pointer (some ⟨G,0,none⟩),.string s] w fun e w'=>e=.returned (.string (escB s))∧Below w.heap.size w w':=by
 have HR:=O.mk hR;have HS:=O.mk hs;obtain⟨v34,v92,vT,hG,⟨qa,ca,ea,_,_,_⟩,⟨qb,cb,eb,_,_,_⟩,t,c,et,ht0,ht1⟩:=hR;have HQA:=O.mk (And.intro ‹qa≠G› (And.intro ‹w.cell? ⟨qa,0,none⟩ = some (.int .u8 92)› ‹w.cell? ⟨qa,1,none⟩ = some (.int .u8 34)›));have HQB:=O.mk (And.intro ‹w.cell? ⟨qb,0,none⟩ = some (.int .u8 92)› ‹w.cell? ⟨qb,1,none⟩ = some (.int .u8 92)›);subst ea eb et;have HG:=O.mk hG;have HT0:=O.mk ht0;have HT1:=O.mk ht1;have hcT:w.cell? ⟨G,256,none⟩ = some (.slice (some ⟨t,0,none⟩) 2 c):=(qz hG 256).trans (bsr_256 _ _ _);have HCT:=O.mk hcT;have HB0:O (Below w.heap.size w w):=⟨Below.refl _ _⟩;clear hG ht0 ht1 hs;go_enter Tryz.func165,Tryz.ntmps165;go_upto_region 2 with (fail)
 iterate 8 (first|go_values|go_skip|go_guarded|go_step|go_upon)
 go_cut [5,6] (fun v5 v6 wc=>v5=.int .i64 (ofs s s.size:Int)∧v6=.bool (decide (s.size < ofs s s.size))∧O (Below w.heap.size w wc))
 case first =>
  by_cases hbig : 16≤s.size
  ·have d1:decide (16≤(s.size:Int))=true:=decide_eq_true (by omega);have d2:decide (16≤s.size)=true:=decide_eq_true hbig;go_wp2;have hcount:=escL_count s.data.toList;have hofs:ofs s s.size=s.size + Lib.countByte s.data.toList 34 + Lib.countByte s.data.toList 92:=by rw[ofs_end];unfold escQ;rw[hcount,data_length]
   have hle1:Lib.countByte s.data.toList 34≤s.size:=by have:=List.count_le_length (a:=(34:UInt8)) (l:=s.data.toList);rw[data_length] at this;exact this
   have hle2:Lib.countByte s.data.toList 92≤s.size:=by have:=List.count_le_length (a:=(92:UInt8)) (l:=s.data.toList);rw[data_length] at this;exact this
   obtain⟨c34,e34⟩ : ∃ x,x=Lib.countByte s.data.toList 34:=⟨_,rfl⟩;obtain⟨c92,e92⟩ : ∃ x,x=Lib.countByte s.data.toList 92:=⟨_,rfl⟩;rw[← e34,← e92] at hofs;rw[← e34] at hle1;rw[← e92] at hle2;have HO:=O.mk hofs;have HL:=O.mk (And.intro hle1 hle2);have C34:=O.mk (fun W=>count_calls s 34 W);have C92:=O.mk (fun W=>count_calls s 92 W);rw[← e34] at C34;rw[← e92] at C92;clear hcount hofs hle1 hle2 e34 e92 d1 d2
   go_loopw [5,6,32] (fun v5 v6 v32 W=>∃ (m:Int) (b:Bool) (k:Int),v5=.int .i64 m∧v6=.bool b∧v32=.int .i64 k∧O (Below w.heap.size w W)∧O ((k=0∧m=s.size∧b=false)∨(k=1∧m=s.size + c34∧b=decide (0 < c34))∨(k=2∧m=s.size + c34 + c92∧b=decide (0 < c34 + c92)))) (fun _ _ v32 _=>2 - (intOf v32).toNat)
   case atStart=>exact⟨_,_,_,rfl,rfl,rfl,HB0,⟨.inl ⟨rfl,rfl,rfl⟩⟩⟩
   case round =>
   obtain⟨m,b,k,rfl,rfl,rfl,HB,HK⟩:=hrel;clear HB0;have hc0:wr.cell? ⟨t,0,none⟩ = some (.string q34):=(HB.out.cell (World.block_lt_of_cell? w _ HT0.out)).trans HT0.out;have hc1:wr.cell? ⟨t,1,none⟩ = some (.string q92):=(HB.out.cell (World.block_lt_of_cell? w _ HT1.out)).trans HT1.out;have BG:=O.mk (kz HG.out HB.out);have hk:=HK.out;clear HK
   rcases hk with ⟨rfl,rfl,rfl⟩|⟨rfl,rfl,rfl⟩|⟨rfl,rfl,rfl⟩
   ·skip
    have hix:∀ W:World,(Instr.index 9 (.string q34) (.int .i64 0)).run Tryz.prog W=.ok (.int .u8 34) W:=fun W=>by kernel_rfl
    have hcx:wr.cell? ⟨G,34,none⟩ = some (.slice (some ⟨qa,0,none⟩) 2 ca):=(rep_cell BG.out 34 (by decide)).trans rfl
    by_cases hz:c34=0
    ·have e0:(((c34:Nat):Int) == 0)=true:=beq_iff_eq.2 (by omega);have e1:(((c34:Nat):Int) != 0)=false:=by rw[hz];rfl
     have e2:((c34:Nat):Int)=0:=by omega
     go_wp2_with (first|(go_at_call 167;refine(C34.out _).mono ?_;rintro e w' ⟨rfl,rfl⟩))
     go_roundw
     case rel=>exact⟨_,_,_,rfl,rfl,by first|rfl|go_num,HB,⟨.inr (.inl ⟨by decide,by omega,by rw[hz];rfl⟩)⟩⟩
     case measure=>decide
    ·have e0:(((c34:Nat):Int) == 0)=false:=beq_eq_false_iff_ne.2 (by omega);have e1:(((c34:Nat):Int) != 0)=true:=bne_iff_ne.2 (by omega);have e2:¬ ((c34:Nat):Int)=0:=by omega
     have HLw:=HL.out;have HSw:=HS.out;have w0:wrap64 (2 - 1)=1:=by unfold wrap64;omega
     have w1:wrap64 (((c34:Nat):Int) * 1)=((c34:Nat):Int):=by unfold wrap64;omega
     have w1':wrap64 ((c34:Nat):Int)=((c34:Nat):Int):=by unfold wrap64;omega
     have w2:wrap64 ((s.size:Int) + ((c34:Nat):Int))=(s.size:Int) + ((c34:Nat):Int):=by unfold wrap64;omega
     clear HLw HSw;go_wp2_with (first|(go_at_call 167;refine(C34.out _).mono ?_;rintro e w' ⟨rfl,rfl⟩))
     go_quiet (fail)
     try go_wp2
     try simp only[w0,w1,w1',w2]
     go_roundw
     case rel=>exact⟨_,_,_,rfl,rfl,by first|rfl|go_num,⟨L HB.out _⟩,⟨.inr (.inl ⟨by decide,by omega,by rw[decide_eq_true (by omega)]⟩)⟩⟩
     case measure=>decide
   ·skip
    have hix:∀ W:World,(Instr.index 9 (.string q92) (.int .i64 0)).run Tryz.prog W=.ok (.int .u8 92) W:=fun W=>by kernel_rfl
    have hcx:wr.cell? ⟨G,92,none⟩ = some (.slice (some ⟨qb,0,none⟩) 2 cb):=(rep_cell BG.out 92 (by decide)).trans rfl
    by_cases hz:c92=0
    ·have e0:(((c92:Nat):Int) == 0)=true:=beq_iff_eq.2 (by omega);have e1:(((c92:Nat):Int) != 0)=false:=by rw[hz];rfl
     have e2:((c92:Nat):Int)=0:=by omega
     go_wp2_with (first|(go_at_call 167;refine(C92.out _).mono ?_;rintro e w' ⟨rfl,rfl⟩))
     go_roundw
     case rel=>exact⟨_,_,_,rfl,rfl,by first|rfl|go_num,HB,⟨.inr (.inr ⟨by decide,by omega,by rw[hz,Nat.add_zero]⟩)⟩⟩
     case measure=>decide
    ·have e0:(((c92:Nat):Int) == 0)=false:=beq_eq_false_iff_ne.2 (by omega);have e1:(((c92:Nat):Int) != 0)=true:=bne_iff_ne.2 (by omega);have e2:¬ ((c92:Nat):Int)=0:=by omega
     have HLw:=HL.out;have HSw:=HS.out;have w0:wrap64 (2 - 1)=1:=by unfold wrap64;omega
     have w1:wrap64 (((c92:Nat):Int) * 1)=((c92:Nat):Int):=by unfold wrap64;omega
     have w1':wrap64 ((c92:Nat):Int)=((c92:Nat):Int):=by unfold wrap64;omega
     have w2:wrap64 (((s.size:Int) + (c34:Int)) + ((c92:Nat):Int))=((s.size:Int) + (c34:Int)) + ((c92:Nat):Int):=by unfold wrap64;omega
     clear HLw HSw;go_wp2_with (first|(go_at_call 167;refine(C92.out _).mono ?_;rintro e w' ⟨rfl,rfl⟩))
     go_quiet (fail)
     try go_wp2
     try simp only[w0,w1,w1',w2]
     go_roundw
     case rel=>exact⟨_,_,_,rfl,rfl,by first|rfl|go_num,⟨L HB.out _⟩,⟨.inr (.inr ⟨by decide,by omega,by rw[decide_eq_true (by omega)]⟩)⟩⟩
     case measure=>decide
   ·go_wp2;go_meet
    case rel=>exact⟨by rw[HO.out];first|rfl|(congr 1;omega),by rw[HO.out];congr 1;exact decide_eq_decide.mpr (by omega),HB⟩
  ·have d1:decide (16≤(s.size:Int))=false:=decide_eq_false (by omega);have d2:decide (16≤s.size)=false:=decide_eq_false hbig;go_wp2;clear d1 d2 hbig;have hne:∀ (q c:Nat) (W:World),(binOp .neq 34 (.slice (some ⟨q,0,none⟩) 2 c) (.slice none 0 0)).run Tryz.prog W=.ok (.bool true) W:=fun q c W=>by kernel_rfl
   have hnn:∀ W:World,(binOp .neq 34 (.slice none 0 0) (.slice none 0 0)).run Tryz.prog W=.ok (.bool false) W:=fun W=>by kernel_rfl
   go_loopw [5,6,10] (fun v5 v6 v10 W=>∃ (m:Int) (b:Bool) (i:Nat),v5=.int .i64 m∧v6=.bool b∧v10=.int .i64 (i:Int)∧O (i≤s.size)∧O (Below w.heap.size w W)∧O (m + i=s.size + ofs s i∧b=decide (i < ofs s i))) (fun _ _ v10 _=>s.size - (intOf v10).toNat)
   case atStart=>exact⟨_,_,0,rfl,rfl,rfl,⟨Nat.zero_le _⟩,HB0,⟨by rw[ofs_zero],by rw[ofs_zero];rfl⟩⟩
   case round =>
   obtain⟨m,b,i,rfl,rfl,rfl,HI,HB,HM⟩:=hrel;clear HB0;have BG:=O.mk (kz HG.out HB.out)
   by_cases hlt:i < s.size
   ·skip
    have HLT:=O.mk hlt;have hl1:decide ((i:Int) < (s.size:Int))=true:=decide_eq_true (by omega);have hl2:decide (i < s.size)=true:=decide_eq_true hlt;have p1:(0≤(i:Int))=True:=eq_true (by omega);have q1:((i:Int) < (s.size:Int))=True:=eq_true (by omega);have hli:i < s.data.toList.length:=by rw[data_length];exact hlt
    have hos:=ofs_step s i hli;have heq:s[i]'hlt=s.data.toList[i]:=rfl;obtain⟨u,eu⟩ : ∃ u,u=s.data.toList[i]:=⟨_,rfl⟩;rw[← eu] at hos heq;obtain⟨x,ex⟩ : ∃ x:Nat,x=u.toNat:=⟨_,rfl⟩;have hx:(((s[i]'hlt).toNat:Nat):Int)=(x:Int):=by rw[heq,ex]
    have hx2:x < 256:=by rw[ex];exact u.toNat_lt
    have e3:wrap64 ((i:Int) + 1)=((i + 1:Nat):Int):=by have:=HS.out;unfold wrap64;omega
    have HEU:=O.mk eu;have HEX:=O.mk ex;clear heq
    by_cases h34:x=34
    ·have hu:u=34:=UInt8.toNat_inj.1 (by rw[← ex,h34];rfl);have hos2:ofs s (i + 1)=ofs s i + 2:=by rw[hos,hu];rfl
     have HOS:=O.mk hos2;have HU:=O.mk hu;rw[h34] at hx;have hcx:wr.cell? ⟨G,34,none⟩ = some (.slice (some ⟨qa,0,none⟩) 2 ca):=(rep_cell BG.out 34 (by decide)).trans rfl;clear hos hos2 hu ex eu hx2 h34;have w0:wrap64 (2 - 1)=1:=by unfold wrap64;omega
     have w1:wrap64 (m + 1)=m + 1:=by have h1:=HM.out.1;have h2:=ofs_le s i HI.out;have h3:=HS.out;have h4:=HI.out;have h5:=ofs_ge s i HI.out;unfold wrap64;omega
     go_wp2;try simp only[e3,w0,w1]
     go_roundw
     case rel=>exact⟨_,_,i + 1,rfl,rfl,rfl,⟨HLT.out⟩,HB,⟨by have:=HM.out.1;rw[HOS.out];omega,by rw[decide_eq_true (by have:=ofs_ge s i HI.out;rw[HOS.out];omega)]⟩⟩
     case measure =>
      show s.size - (((i + 1:Nat):Int)).toNat < s.size - ((i:Int)).toNat
      rw[Int.toNat_natCast,Int.toNat_natCast];exact Nat.sub_lt_sub_left HLT.out (Nat.lt_succ_self i)
    by_cases h92:x=92
    ·have hu:u=92:=UInt8.toNat_inj.1 (by rw[← ex,h92];rfl);have hos2:ofs s (i + 1)=ofs s i + 2:=by rw[hos,hu];rfl
     have HOS:=O.mk hos2;have HU:=O.mk hu;rw[h92] at hx;have hcx:wr.cell? ⟨G,92,none⟩ = some (.slice (some ⟨qb,0,none⟩) 2 cb):=(rep_cell BG.out 92 (by decide)).trans rfl;clear hos hos2 hu ex eu hx2 h92 h34;have w0:wrap64 (2 - 1)=1:=by unfold wrap64;omega
     have w1:wrap64 (m + 1)=m + 1:=by have h1:=HM.out.1;have h2:=ofs_le s i HI.out;have h3:=HS.out;have h4:=HI.out;have h5:=ofs_ge s i HI.out;unfold wrap64;omega
     go_wp2;try simp only[e3,w0,w1]
     go_roundw
     case rel=>exact⟨_,_,i + 1,rfl,rfl,rfl,⟨HLT.out⟩,HB,⟨by have:=HM.out.1;rw[HOS.out];omega,by rw[decide_eq_true (by have:=ofs_ge s i HI.out;rw[HOS.out];omega)]⟩⟩
     case measure =>
      show s.size - (((i + 1:Nat):Int)).toNat < s.size - ((i:Int)).toNat
      rw[Int.toNat_natCast,Int.toNat_natCast];exact Nat.sub_lt_sub_left HLT.out (Nat.lt_succ_self i)
    have hos2:ofs s (i + 1)=ofs s i + 1:=by
     rw[hos];unfold escU;rw[if_neg (fun h=>h.elim (fun e=>h34 (by rw[ex,e];rfl)) (fun e=>h92 (by rw[ex,e];rfl)))];rfl
    have HOS:=O.mk hos2;have HU:O (¬ (u=34∨u=92)):=⟨fun h=>h.elim (fun e=>h34 (by rw[ex,e];rfl)) (fun e=>h92 (by rw[ex,e];rfl))⟩;have hcx:wr.cell? ⟨G,x,none⟩ = some (.slice none 0 0):=by rw[rep_cell BG.out x hx2,if_neg h34,if_neg h92]
    have p2:(0≤(x:Int))=True:=eq_true (by omega);have q2:((x:Int) < 256)=True:=eq_true (by omega);clear hos hos2 ex eu hx2 h34 h92;go_wp2;try simp only[e3]
    go_roundw
    case rel=>exact⟨_,_,i + 1,rfl,rfl,rfl,⟨HLT.out⟩,HB,⟨by have:=HM.out.1;rw[HOS.out];omega,by rw[HM.out.2];exact decide_eq_decide.mpr (by rw[HOS.out];omega)⟩⟩
    case measure =>
     show s.size - (((i + 1:Nat):Int)).toNat < s.size - ((i:Int)).toNat
     rw[Int.toNat_natCast,Int.toNat_natCast];exact Nat.sub_lt_sub_left HLT.out (Nat.lt_succ_self i)
   ·obtain rfl:i=s.size:=by have:=HI.out;omega
    have hl1:decide ((s.size:Int) < (s.size:Int))=false:=decide_eq_false (by omega);have hl2:decide (s.size < s.size)=false:=decide_eq_false (by omega);go_wp2;go_meet
    case rel=>exact⟨by have:=HM.out.1;congr 1;omega,by rw[HM.out.2],HB⟩
 obtain⟨rfl,rfl,HB⟩:=hcut;clear HB0;have HN:O (ofs s s.size≤2000000):=⟨by have h1:=ofs_le s s.size (Nat.le_refl _);have h2:=HS.out;omega⟩
 by_cases hany:s.size < ofs s s.size
 case neg =>
  have d1:decide (s.size < ofs s s.size)=false:=decide_eq_false hany
  have hE:escB s=s:=by
   have h1:=ofs_ge s s.size (Nat.le_refl _);have h2:escQ s=s.data.toList:=escL_eq _ (by have h3:=ofs_end s;unfold escQ at h3;rw[← h3,data_length];omega);unfold escB;rw[h2]
  rw[d1];clear hany d1;go_wp2;go_ret
  exact⟨by rw[hE];rfl,HB.out⟩
 have d1:decide (s.size < ofs s s.size)=true:=decide_eq_true hany;rw[d1];clear d1 hany;obtain⟨i0,hi0,hz0,hsz,hby⟩:=info_parts info5;have hmk:=run_make (P:=Tryz.prog) (w:=wc) 34 5 i0 _ Tryz.underlying34 hi0 hz0 .i64 .i64 (ofs s s.size:Int) (ofs s s.size:Int) (by omega) (by omega) (by rw[hby];have:=HN.out;omega) (by have:=HN.out;omega);rw[hsz,Nat.mul_one,Int.toNat_natCast] at hmk;obtain⟨W1,eW1⟩ : ∃ W,W=wc.alloc (.cells (bufA s 0) 5 (0,0)):=⟨_,rfl⟩;obtain⟨g,eg⟩ : ∃ g,g=wc.heap.size:=⟨_,rfl⟩;have hmk2:(Instr.makeSlice 34 (.int .i64 (ofs s s.size:Int)) (.int .i64 (ofs s s.size:Int))).run Tryz.prog wc=.ok (.slice (some ⟨g,0,none⟩) (ofs s s.size) (ofs s s.size)) W1:=by rw[eW1,eg,← bufA_made];exact hmk
 have BB0:O (W1.heap[g]? = some (.cells (bufA s 0) 5 (0,0))):=⟨by rw[eW1,eg];exact blk_new _ _⟩;have HB1:O (Below w.heap.size w W1):=⟨by rw[eW1];exact J HB.out _⟩;have HGB:O (w.heap.size≤g):=⟨by rw[eg];exact HB.out.size⟩;clear hmk hi0 hz0 hsz hby eW1 eg HB;go_wp2;clear hmk2;have HZ:=O.mk (ofs_zero s);have hne:∀ (q c:Nat) (W:World),(binOp .neq 34 (.slice (some ⟨q,0,none⟩) 2 c) (.slice none 0 0)).run Tryz.prog W=.ok (.bool true) W:=fun q c W=>by kernel_rfl
 have hnn:∀ W:World,(binOp .neq 34 (.slice none 0 0) (.slice none 0 0)).run Tryz.prog W=.ok (.bool false) W:=fun W=>by kernel_rfl
 go_loopw [13,14] (fun v13 v14 W=>∃ i:Nat,v13=.int .i64 (ofs s i:Int)∧v14=.int .i64 (i:Int)∧O (i≤s.size)∧O (Below w.heap.size w W)∧O (W.heap[g]? = some (.cells (bufA s i) 5 (0,0)))) (fun _ v14 _=>s.size - (intOf v14).toNat)
 case atStart=>exact⟨0,by rw[ofs_zero];rfl,rfl,⟨Nat.zero_le _⟩,HB1,BB0⟩
 case round =>
 obtain⟨i,rfl,rfl,HI,HB,HBB⟩:=hrel;clear HB1 BB0;have BG:=O.mk (kz HG.out HB.out)
 by_cases hlt:i < s.size
 ·skip
  have HLT:=O.mk hlt;have hl1:decide ((i:Int) < (s.size:Int))=true:=decide_eq_true (by omega);have hl2:decide (i < s.size)=true:=decide_eq_true hlt;have p1:(0≤(i:Int))=True:=eq_true (by omega);have q1:((i:Int) < (s.size:Int))=True:=eq_true (by omega);have hli:i < s.data.toList.length:=by rw[data_length];exact hlt
  have hos:=ofs_step s i hli;have heq:s[i]'hlt=s.data.toList[i]:=rfl;obtain⟨u,eu⟩ : ∃ u,u=s.data.toList[i]:=⟨_,rfl⟩;rw[← eu] at hos heq;obtain⟨x,ex⟩ : ∃ x:Nat,x=u.toNat:=⟨_,rfl⟩;have hx:(((s[i]'hlt).toNat:Nat):Int)=(x:Int):=by rw[heq,ex]
  have hx2:x < 256:=by rw[ex];exact u.toNat_lt
  have e3:wrap64 ((i:Int) + 1)=((i + 1:Nat):Int):=by have:=HS.out;unfold wrap64;omega
  have HEU:=O.mk eu;have HEX:=O.mk ex;clear heq;have HM:=O.mk (show ofs s i + (escU u).length≤ofs s s.size by have h1:=ofs_mono s (i + 1) (s.size - (i + 1)) (by omega);rw[show i + 1 + (s.size - (i + 1))=s.size by omega] at h1;omega);have HD:=O.mk (fun d (hd:d < (escU s.data.toList[i]).length)=>escQ_getD s i d hli hd);rw[← eu] at HD
  by_cases h34:x=34
  ·have hu:u=34:=UInt8.toNat_inj.1 (by rw[← ex,h34];rfl);have hos2:ofs s (i + 1)=ofs s i + 2:=by rw[hos,hu];rfl
   have HOS:=O.mk hos2;have HU:=O.mk hu;rw[h34] at hx;have hcx:wr.cell? ⟨G,34,none⟩ = some (.slice (some ⟨qa,0,none⟩) 2 ca):=(rep_cell BG.out 34 (by decide)).trans rfl;clear hos hos2 hu ex eu hx2 h34;have hj1 : 0≤(ofs s i:Int):=by omega
   have hm:ofs s i + 2≤ofs s s.size:=by have h:=HM.out;rw[HU.out] at h;exact h
   have hd0:(escQ s).getD (ofs s i) 0=92:=by have h:=HD.out 0 (by rw[HU.out];decide);simp only[HU.out] at h;exact h
   have hd1:(escQ s).getD (ofs s i + 1) 0=34:=by have h:=HD.out 1 (by rw[HU.out];decide);simp only[HU.out] at h;exact h
   have HP:=O.mk (bufA_put2 s i 92 34 HOS.out (by rw[hd0];rfl) (by rw[hd1];rfl));have hr0:wr.cell? ⟨qa,0,none⟩ = some (.int .u8 92):=(HB.out.cell (World.block_lt_of_cell? w _ HQA.out.2.1)).trans HQA.out.2.1;have hr1:wr.cell? ⟨qa,1,none⟩ = some (.int .u8 34):=(HB.out.cell (World.block_lt_of_cell? w _ HQA.out.2.2)).trans HQA.out.2.2;obtain⟨iu,hiu,_,hszu,_⟩:=info_parts info5;have hcut:=cut_from (P:=Tryz.prog) 34 5 .i64 Tryz.underlying34 hiu 1 hszu (some ⟨g,0,none⟩) (ofs s s.size) (ofs s s.size) (ofs s i:Int) hj1 (by omega)
   have hsl:∀ W:World,(Instr.slice 34 (.slice (some ⟨g,0,none⟩) (ofs s s.size) (ofs s s.size)) (some (.int .i64 (ofs s i:Int))) none none).run Tryz.prog W=.ok (.slice (some ⟨g,ofs s i,none⟩) (ofs s s.size - ofs s i) (ofs s s.size - ofs s i)) W:=fun W=>by
    rw[hcut W,Int.toNat_natCast,if_neg (by omega)];simp[Addr.add]
    exact fun h=>h.symm
   have hcop:∀ W:World,W.heap=wr.heap→(Builtin.copy_ #[34,34] 3 #[.slice (some ⟨g,ofs s i,none⟩) (ofs s s.size - ofs s i) (ofs s s.size - ofs s i),.slice (some ⟨qa,0,none⟩) 2 ca]).run Tryz.prog W=.ok (.int .i64 2) ((W.setCell ⟨g,ofs s i,none⟩ (.int .u8 92)).setCell ⟨g,ofs s i + 1,none⟩ (.int .u8 34)):=fun W hW=>by
    have hcW:∀ a,W.cell? a=wr.cell? a:=fun a=>by simp only[World.cell?,hW]
    have hfW:∀ a,W.frozen? a=wr.frozen? a:=fun a=>by simp only[World.frozen?,hW]
    refine run_copy_cells (P:=Tryz.prog) W 34 34 3 5 g (ofs s i) _ _ ⟨qa,0,none⟩ 2 ca [.int .u8 92,.int .u8 34] Tryz.underlying34 (by rw[hiu];exact congrArg some hszu) (Nat.min_eq_left (show 2≤ofs s s.size - ofs s i by omega)).symm (fun j v hj=>?_) (fun j hj=>?_) (fun j hj=>?_) (fun v hv=>?_)
    ·have hj2:j=0∨j=1:=by have:=(List.getElem?_eq_some_iff.1 hj).1;simp only[List.length_cons,List.length_nil] at this;omega
     rw[hcW]
     rcases hj2 with rfl|rfl
     ·exact hr0.trans hj
     ·exact hr1.trans hj
    ·simp only[List.length_cons,List.length_nil] at hj;rw[hcW,qz HBB.out (ofs s i + j),bufA_at,if_pos (by omega)];rfl
    ·rw[hfW];exact qq HBB.out _
    ·simp only[List.mem_cons,List.not_mem_nil,or_false] at hv;rcases hv with rfl|rfl <;> rfl
   have w1:wrap64 ((ofs s i:Int) + 2)=((ofs s i + 2:Nat):Int):=by have:=HN.out;unfold wrap64;omega
   have hcd:=hcop wr.drew rfl;have hcd2:∀ W:World,W=wr.drew→(Builtin.copy_ #[34,34] 3 #[.slice (some ⟨g,ofs s i,none⟩) (ofs s s.size - ofs s i) (ofs s s.size - ofs s i),.slice (some ⟨qa,0,none⟩) 2 ca]).run Tryz.prog W=.ok (.int .i64 2) ((W.setCell ⟨g,ofs s i,none⟩ (.int .u8 92)).setCell ⟨g,ofs s i + 1,none⟩ (.int .u8 34)):=fun W hW=>by rw[hW];exact hcd
   clear hcop hcd hcut hszu hm hd0 hd1 hj1 hr0 hr1 hiu;go_wp2;have hGg:G≠g:=by have h1:=HGB.out;have h2:=blk_lt HG.out;omega
   have hkp:∀ (j k:Nat) (u v:Value),((wr.setCell ⟨g,j,none⟩ u).setCell ⟨g,k,none⟩ v).drew.cell? ⟨G,34,none⟩ = wr.cell? ⟨G,34,none⟩:=fun j k u v=>by rw[World.cell?_drew,World.cell?_setCell_other _ _ _ _ (fun h=>hGg (congrArg Addr.block h).symm),World.cell?_setCell_other _ _ _ _ (fun h=>hGg (congrArg Addr.block h).symm)]
   clear hGg;go_region_held3 (fun w'=>w'.cell? ⟨G,34,none⟩ = some (.slice (some ⟨qa,0,none⟩) 2 ca)) (first|go_keep|(rw[hkp];exact hcx)) (fail)
   have w1i:IntKind.i64.wrap ((ofs s i:Int) + 2)=((ofs s i + 2:Nat):Int):=by rw[i64_w];exact w1
   simp only[w1i];clear hkp hcd2 hsl hcx hne hnn;try go_wp2
   try simp only[e3]
   go_roundw
   case rel=>exact⟨i + 1,by rw[HOS.out],rfl,⟨HLT.out⟩,⟨(qj (qj HB.out HGB.out) HGB.out).drew⟩,⟨blk_put (blk_put HBB.out _ _ rfl) _ _ HP.out⟩⟩
   case measure =>
    show s.size - (((i + 1:Nat):Int)).toNat < s.size - ((i:Int)).toNat
    rw[Int.toNat_natCast,Int.toNat_natCast];exact Nat.sub_lt_sub_left HLT.out (Nat.lt_succ_self i)
  by_cases h92:x=92
  ·have hu:u=92:=UInt8.toNat_inj.1 (by rw[← ex,h92];rfl);have hos2:ofs s (i + 1)=ofs s i + 2:=by rw[hos,hu];rfl
   have HOS:=O.mk hos2;have HU:=O.mk hu;rw[h92] at hx;have hcx:wr.cell? ⟨G,92,none⟩ = some (.slice (some ⟨qb,0,none⟩) 2 cb):=(rep_cell BG.out 92 (by decide)).trans rfl;clear hos hos2 hu ex eu hx2 h92 h34;have hj1 : 0≤(ofs s i:Int):=by omega
   have hm:ofs s i + 2≤ofs s s.size:=by have h:=HM.out;rw[HU.out] at h;exact h
   have hd0:(escQ s).getD (ofs s i) 0=92:=by have h:=HD.out 0 (by rw[HU.out];decide);simp only[HU.out] at h;exact h
   have hd1:(escQ s).getD (ofs s i + 1) 0=92:=by have h:=HD.out 1 (by rw[HU.out];decide);simp only[HU.out] at h;exact h
   have HP:=O.mk (bufA_put2 s i 92 92 HOS.out (by rw[hd0];rfl) (by rw[hd1];rfl));have hr0:wr.cell? ⟨qb,0,none⟩ = some (.int .u8 92):=(HB.out.cell (World.block_lt_of_cell? w _ HQB.out.1)).trans HQB.out.1;have hr1:wr.cell? ⟨qb,1,none⟩ = some (.int .u8 92):=(HB.out.cell (World.block_lt_of_cell? w _ HQB.out.2)).trans HQB.out.2;obtain⟨iu,hiu,_,hszu,_⟩:=info_parts info5;have hcut:=cut_from (P:=Tryz.prog) 34 5 .i64 Tryz.underlying34 hiu 1 hszu (some ⟨g,0,none⟩) (ofs s s.size) (ofs s s.size) (ofs s i:Int) hj1 (by omega)
   have hsl:∀ W:World,(Instr.slice 34 (.slice (some ⟨g,0,none⟩) (ofs s s.size) (ofs s s.size)) (some (.int .i64 (ofs s i:Int))) none none).run Tryz.prog W=.ok (.slice (some ⟨g,ofs s i,none⟩) (ofs s s.size - ofs s i) (ofs s s.size - ofs s i)) W:=fun W=>by
    rw[hcut W,Int.toNat_natCast,if_neg (by omega)];simp[Addr.add]
    exact fun h=>h.symm
   have hcop:∀ W:World,W.heap=wr.heap→(Builtin.copy_ #[34,34] 3 #[.slice (some ⟨g,ofs s i,none⟩) (ofs s s.size - ofs s i) (ofs s s.size - ofs s i),.slice (some ⟨qb,0,none⟩) 2 cb]).run Tryz.prog W=.ok (.int .i64 2) ((W.setCell ⟨g,ofs s i,none⟩ (.int .u8 92)).setCell ⟨g,ofs s i + 1,none⟩ (.int .u8 92)):=fun W hW=>by
    have hcW:∀ a,W.cell? a=wr.cell? a:=fun a=>by simp only[World.cell?,hW]
    have hfW:∀ a,W.frozen? a=wr.frozen? a:=fun a=>by simp only[World.frozen?,hW]
    refine run_copy_cells (P:=Tryz.prog) W 34 34 3 5 g (ofs s i) _ _ ⟨qb,0,none⟩ 2 cb [.int .u8 92,.int .u8 92] Tryz.underlying34 (by rw[hiu];exact congrArg some hszu) (Nat.min_eq_left (show 2≤ofs s s.size - ofs s i by omega)).symm (fun j v hj=>?_) (fun j hj=>?_) (fun j hj=>?_) (fun v hv=>?_)
    ·have hj2:j=0∨j=1:=by have:=(List.getElem?_eq_some_iff.1 hj).1;simp only[List.length_cons,List.length_nil] at this;omega
     rw[hcW]
     rcases hj2 with rfl|rfl
     ·exact hr0.trans hj
     ·exact hr1.trans hj
    ·simp only[List.length_cons,List.length_nil] at hj;rw[hcW,qz HBB.out (ofs s i + j),bufA_at,if_pos (by omega)];rfl
    ·rw[hfW];exact qq HBB.out _
    ·simp only[List.mem_cons,List.not_mem_nil,or_false] at hv;rcases hv with rfl|rfl <;> rfl
   have w1:wrap64 ((ofs s i:Int) + 2)=((ofs s i + 2:Nat):Int):=by have:=HN.out;unfold wrap64;omega
   have hcd:=hcop wr.drew rfl;have hcd2:∀ W:World,W=wr.drew→(Builtin.copy_ #[34,34] 3 #[.slice (some ⟨g,ofs s i,none⟩) (ofs s s.size - ofs s i) (ofs s s.size - ofs s i),.slice (some ⟨qb,0,none⟩) 2 cb]).run Tryz.prog W=.ok (.int .i64 2) ((W.setCell ⟨g,ofs s i,none⟩ (.int .u8 92)).setCell ⟨g,ofs s i + 1,none⟩ (.int .u8 92)):=fun W hW=>by rw[hW];exact hcd
   clear hcop hcd hcut hszu hm hd0 hd1 hj1 hr0 hr1 hiu;go_wp2;have hGg:G≠g:=by have h1:=HGB.out;have h2:=blk_lt HG.out;omega
   have hkp:∀ (j k:Nat) (u v:Value),((wr.setCell ⟨g,j,none⟩ u).setCell ⟨g,k,none⟩ v).drew.cell? ⟨G,92,none⟩ = wr.cell? ⟨G,92,none⟩:=fun j k u v=>by rw[World.cell?_drew,World.cell?_setCell_other _ _ _ _ (fun h=>hGg (congrArg Addr.block h).symm),World.cell?_setCell_other _ _ _ _ (fun h=>hGg (congrArg Addr.block h).symm)]
   clear hGg;go_region_held3 (fun w'=>w'.cell? ⟨G,92,none⟩ = some (.slice (some ⟨qb,0,none⟩) 2 cb)) (first|go_keep|(rw[hkp];exact hcx)) (fail)
   have w1i:IntKind.i64.wrap ((ofs s i:Int) + 2)=((ofs s i + 2:Nat):Int):=by rw[i64_w];exact w1
   simp only[w1i];clear hkp hcd2 hsl hcx hne hnn;try go_wp2
   try simp only[e3]
   go_roundw
   case rel=>exact⟨i + 1,by rw[HOS.out],rfl,⟨HLT.out⟩,⟨(qj (qj HB.out HGB.out) HGB.out).drew⟩,⟨blk_put (blk_put HBB.out _ _ rfl) _ _ HP.out⟩⟩
   case measure =>
    show s.size - (((i + 1:Nat):Int)).toNat < s.size - ((i:Int)).toNat
    rw[Int.toNat_natCast,Int.toNat_natCast];exact Nat.sub_lt_sub_left HLT.out (Nat.lt_succ_self i)
  have hos2:ofs s (i + 1)=ofs s i + 1:=by
   rw[hos];unfold escU;rw[if_neg (fun h=>h.elim (fun e=>h34 (by rw[ex,e];rfl)) (fun e=>h92 (by rw[ex,e];rfl)))];rfl
  have HOS:=O.mk hos2;have HU:O (¬ (u=34∨u=92)):=⟨fun h=>h.elim (fun e=>h34 (by rw[ex,e];rfl)) (fun e=>h92 (by rw[ex,e];rfl))⟩;have hcx:wr.cell? ⟨G,x,none⟩ = some (.slice none 0 0):=by rw[rep_cell BG.out x hx2,if_neg h34,if_neg h92]
  have p2:(0≤(x:Int))=True:=eq_true (by omega);have q2:((x:Int) < 256)=True:=eq_true (by omega);clear hos hos2 ex eu hx2 h34 h92;have hj1 : 0≤(ofs s i:Int):=by omega
  have hlen:(escU u).length=1:=by unfold escU;rw[if_neg HU.out];rfl
  have hm:ofs s i + 1≤ofs s s.size:=by have h:=HM.out;rw[hlen] at h;exact h
  have hd0:(escQ s).getD (ofs s i) 0=u:=by have h:=HD.out 0 (by rw[hlen];decide);rw[Nat.add_zero] at h;rw[h];simp only[escU,if_neg HU.out];rfl
  have HP:=O.mk (bufA_put1 s i (x:Int) HOS.out (by rw[hd0,HEX.out]));have hcb:wr.cell? ⟨g,ofs s i,none⟩ = some (bufV s i (ofs s i)):=(qz HBB.out _).trans (by rw[bufA_at,if_pos (by omega)]);have hcb:wr.cell? ⟨g,ofs s i,none⟩ = some (.int .u8 0):=hcb.trans (by unfold bufV;rw[if_neg (Nat.lt_irrefl _)]);have hfb:=qq HBB.out (ofs s i);have p3:(0≤(ofs s i:Int))=True:=eq_true hj1;have q3:((ofs s i:Int) < (ofs s s.size:Int))=True:=eq_true (by omega);have w1:wrap64 ((ofs s i:Int) + 1)=((ofs s i + 1:Nat):Int):=by have:=HN.out;unfold wrap64;omega
  clear hm hd0 hlen hj1;go_wp2;try simp only[e3,w1]
  go_roundw
  case rel=>exact⟨i + 1,by rw[HOS.out],rfl,⟨HLT.out⟩,⟨qj HB.out HGB.out⟩,⟨blk_put HBB.out _ _ HP.out⟩⟩
  case measure =>
   show s.size - (((i + 1:Nat):Int)).toNat < s.size - ((i:Int)).toNat
   rw[Int.toNat_natCast,Int.toNat_natCast];exact Nat.sub_lt_sub_left HLT.out (Nat.lt_succ_self i)
 ·obtain rfl:i=s.size:=by have:=HI.out;omega
  have hl1:decide ((s.size:Int) < (s.size:Int))=false:=decide_eq_false (by omega);have hl2:decide (s.size < s.size)=false:=decide_eq_false (by omega)
  have hcv:(convert 34 9 (.slice (some ⟨g,0,none⟩) (ofs s s.size) (ofs s s.size))).run Tryz.prog wr=.ok (.string (escB s)) wr:=by
   rw[← buf_str];refine run_convert_bytes_arg wr 34 5 Tryz.underlying34 Tryz.underlying5 g 0 (ofs s s.size) (ofs s s.size) ((List.range (ofs s s.size)).map fun p=>(((escQ s).getD p 0).toNat:Int)) (by simp) (fun j hj=>?_) 9 Tryz.underlying9;rw[Nat.zero_add,qz HBB.out j,bufA_at,if_pos hj];unfold bufV;rw[if_pos hj,show((List.range (ofs s s.size)).map fun p=>(((escQ s).getD p 0).toNat:Int)).getD j 0=(((escQ s).getD j 0).toNat:Int) by rw[List.getD_eq_getElem?_getD,List.getElem?_map,List.getElem?_range hj];rfl]
  clear hlt HI;go_wp2;go_ret
  exact⟨rfl,HB.out⟩
end Go.Proofs.YtnbbbjfjkhglhaaGreatDoor.Pr
namespace Go.Proofs.YtnbbbjfjkhglhaaGreatDoor.Pr
open Go.RowKit Go.Proofs.YtnbbbjfjkhglhaaGreatDoorW.PrintWords Go.Proofs.YtnbbbjfjkhglhaaGreatDoorW.PrintLast Go.Proofs.YtnbbbjfjkhglhaaGreatDoorW.PrintMore
set_option linter.unusedVariables false
set_option linter.unusedSimpArgs false
theorem str_other {W:World} {g0 o j k:Nat} {u:Value} {q:ByteArray} {n:Int} (h:W.cell? ⟨o,k,none⟩ = some (.string q)) (hs0:∃ x,W.cell? ⟨o,0,none⟩ = some (.string x)) (h0:W.cell? ⟨g0,0,none⟩ = some (.int .u32 n)):(W.setCell ⟨g0,j,none⟩ u).cell? ⟨o,k,none⟩ = some (.string q):=by
 obtain⟨x,hx⟩:=hs0;have hne:g0≠o:=by rintro rfl;rw[hx] at h0;cases h0
 exact(World.cell?_setCell_other _ ⟨g0,j,none⟩ ⟨o,k,none⟩ _ (fun h=>hne (congrArg Addr.block h))).trans h
set_option maxHeartbeats 4000000 in
theorem replReplace_calls (b0 g0 o c:Nat) (s:ByteArray) (w:World) (hs:s.size≤1000000) (hb0:b0≤g0) (hg:w.heap[g0]? = some (.cells (rplC 0 0 .nilIface (.slice (some ⟨o,0,none⟩) 4 c)) 118 (0,0))) (hs0:w.cell? ⟨o,0,none⟩ = some (.string q92)) (hs1:w.cell? ⟨o,1,none⟩ = some (.string q9292)) (hs2:w.cell? ⟨o,2,none⟩ = some (.string q34)) (hs3:w.cell? ⟨o,3,none⟩ = some (.string q9234)) :
  Calls Tryz.prog 80 #[.pointer (some ⟨g0,0,none⟩),.string s] w fun e w'=>e=.returned (.string (escB s))∧Below b0 w w':=by
 have h00:w.cell? ⟨g0,0,none⟩ = some (.int .u32 0):=(qz hg 0).trans rfl;have h01:w.cell? ⟨g0,1,none⟩ = some (.int .i32 0):=(qz hg 1).trans rfl;have hB:=blk_put (cs':=rplC 0 1 .nilIface (.slice (some ⟨o,0,none⟩) 4 c)) hg 1 (.int .i32 1) rfl;have hC:=buildOnce_calls b0 g0 o c (w.setCell ⟨g0,1,none⟩ (.int .i32 1)) hb0 hB (str_other hs0 ⟨_,hs0⟩ h00) (str_other hs1 ⟨_,hs0⟩ h00) (str_other hs2 ⟨_,hs0⟩ h00) (str_other hs3 ⟨_,hs0⟩ h00);have hBe:Below b0 w (w.setCell ⟨g0,1,none⟩ (.int .i32 1)):=(Below.refl b0 w).setCell (p:=⟨g0,1,none⟩) hb0 _
 have HD:=O.mk (sy_do g0 0 ⟨g0,0,none⟩ w (fun w1=>∃ G:Nat,w1.heap[g0]? = some (.cells (rplC 0 1 (.iface 147 (.pointer (some ⟨G,0,none⟩))) (.slice none 0 0)) 118 (0,0))∧RepOk w1 G∧Below b0 w w1) h00 h01 (qq hg 1) (hC.mono fun e w' h=>by
  obtain⟨he,G,h1,h2,h3⟩:=h;exact⟨he,⟨G,h1,h2,hBe.trans h3⟩,(qz h1 0).trans rfl,(qz h1 1).trans rfl,qq h1 0,qq h1 1⟩))
 have HS:=O.mk hs;have HL:=O.mk hb0;have HLW:O (b0≤w.heap.size):=⟨by have:=blk_lt hg;omega⟩;clear hC hB hBe hs0 hs1 hs2 hs3 hg h00 h01 hs;go_enter Tryz.func80,Tryz.ntmps80;go_wp2_with (first|(go_at_call 91;go_loud (refine HD.out.mono ?_;rintro e w2 ⟨rfl,w1,⟨G,hg1,hR1,hB1⟩,rfl⟩;have BK0:=blk_put (w:=w1.drew) (cs':=rplC 1 1 (.iface 147 (.pointer (some ⟨G,0,none⟩))) (.slice none 0 0)) hg1 0 (.int .u32 1) rfl;have BK1:=blk_put (cs':=rplC 1 0 (.iface 147 (.pointer (some ⟨G,0,none⟩))) (.slice none 0 0)) BK0 1 (.int .i32 0) rfl;have RO0:=RepOk.other (W:=w1.drew) (j:=0) (u:=.int .u32 1) hR1 hg1 ⟨0,rfl⟩;have RO1:=O.mk (RO0.other (j:=1) (u:=.int .i32 0) BK0 ⟨1,rfl⟩);have HB1:=O.mk ((hB1.drew.setCell (p:=⟨g0,0,none⟩) HL.out (.int .u32 1)).setCell (p:=⟨g0,1,none⟩) HL.out (.int .i32 0));have hc3:(onceEnd g0 0 w1).cell? ⟨g0,3,none⟩ = some (.iface 147 (.pointer (some ⟨G,0,none⟩))):=(qz BK1 3).trans rfl;replace RO1:O (RepOk (onceEnd g0 0 w1) G):=RO1;replace HB1:O (Below b0 w (onceEnd g0 0 w1)):=HB1;clear hg1 hR1 hB1 BK0 BK1 RO0;generalize onceEnd g0 0 w1=w2 at RO1 HB1 hc3 ⊢)))
 have hm : ∀ (n G : Nat) (W : World), Sem.run Tryz.prog (method (n + 1) 147 (.pointer (some ⟨G, 0, none⟩)) "Replace") W = .ok (165, .pointer (some ⟨G, 0, none⟩)) W := fun _ _ _ => by kernel_rfl
 rw[hm];clear hm;go_wp2_with (first|(go_at_call 165;go_loud (refine(bsrReplace_calls G s w2 RO1.out HS.out).mono ?_;rintro e w3 ⟨rfl,hB3⟩;have HB3:=O.mk (HB1.out.trans (hB3.mono (Nat.le_trans HLW.out HB1.out.size)));clear hB3)))
 go_ret
 exact⟨rfl,HB3.out⟩
end Go.Proofs.YtnbbbjfjkhglhaaGreatDoor.Pr
namespace Go.Proofs.YtnbbbjfjkhglhaaGreatDoor.Pr
open Go.RowKit Go.Proofs.YtnbbbjfjkhglhaaGreatDoorW.PrintWords Go.Proofs.YtnbbbjfjkhglhaaGreatDoorW.PrintLast Go.Proofs.YtnbbbjfjkhglhaaGreatDoorW.PrintMore
set_option linter.unusedVariables false
set_option linter.unusedSimpArgs false
def quoteB (s:ByteArray):ByteArray:=(⟨#[34]⟩ : ByteArray) ++ escB s ++ (⟨#[34]⟩ : ByteArray)
def xw.f (s:ByteArray):Option ByteArray:=if s.size≤1000000 then some (quoteB s) else none
set_option maxHeartbeats 4000000 in
theorem xw.calls (a0:ByteArray) (r:ByteArray) (w:World) (h:xw.f a0=some r) :
  Calls Tryz.prog 56 #[.string a0] w fun e w'=>e=.returned (.string r)∧Below w.heap.size w w':=by
 unfold xw.f at h
 by_cases hs:a0.size≤1000000
 case neg=>rw[if_neg hs] at h;cases h
 rw[if_pos hs] at h;obtain rfl:=Option.some.inj h;have HS:=O.mk hs
 have hle:(escB a0).size≤2 * a0.size:=by
  have h1:=ofs_le a0 a0.size (Nat.le_refl _);rw[ofs_end] at h1;exact h1
 have h1:¬ 9223372036854775807 < 1 + (escB a0).size:=by omega
 have h2:¬ 9223372036854775807 < 1 + (escB a0).size + 1:=by omega
 clear hle;clear h hs;go_enter Tryz.func56,Tryz.ntmps56;go_wp2_with (first|((with_reducible refine gate_dst (N:=3) rfl ?_);refine Kd.R_lit Kd.string _ 9 ?hg (N:=3) ?hd (xs:=([q92,q9292,q34,q9234]:List ByteArray)) (inner:=[.string q92,.string q9292,.string q34,.string q9234]) (ok:=fun _=>True) (okp:=fun _=>True) ?hr ?hp (fun _ hk=>hk) trivial (Below.refl _ _) (Nat.le_refl _) (by simp) ?_;(case hd=>rfl);(case hg=>rfl);(case hr=>first|(go_simp;done)|(go_simp;rfl));(case hp=>exact(Reps.one (show Kd.M Kd.string _ _ _ q92 [.string q92] from rfl) (Reps.one (show Kd.M Kd.string _ _ _ q9292 [.string q9292] from rfl) (Reps.one (show Kd.M Kd.string _ _ _ q34 [.string q34] from rfl) (Reps.one (show Kd.M Kd.string _ _ _ q9234 [.string q9234] from rfl) (Reps.none _ _))))));intro v1 w1 ho hb hg_ hnew_;clear hg_ hnew_;obtain⟨A1,c1,e1,_,hC1⟩:=Kd.R_reads ho;subst e1;have HC1:O (Kd.C Kd.string w1 A1 4 [q92,q9292,q34,q9234]):=⟨hC1⟩;have HB1:=O.mk hb;clear ho hb hC1)|(go_at_call 79;go_loud (refine(newReplacer_calls A1 c1 w1 HC1.out).mono ?_;rintro e w2 ⟨g0,o,c,rfl,hB2,hG,hg,hs0,hs1,hs2,hs3⟩;have HR:O (Calls Tryz.prog 80 #[.pointer (some ⟨g0,0,none⟩),.string a0] w2 fun e w'=>e=.returned (.string (escB a0))∧Below w.heap.size w2 w'):=⟨replReplace_calls w.heap.size g0 o c a0 w2 HS.out (Nat.le_trans HB1.out.size hG) hg hs0 hs1 hs2 hs3⟩;have HB2:=O.mk (HB1.out.trans (hB2.mono HB1.out.size));clear hB2 hG hg hs0 hs1 hs2 hs3))|(go_at_call 80;go_loud (refine HR.out.mono ?_;rintro e w3 ⟨rfl,hB3⟩;have HB3:=O.mk (HB2.out.trans hB3);clear hB3)))
 go_ret
 exact⟨rfl,HB3.out⟩
end Go.Proofs.YtnbbbjfjkhglhaaGreatDoor.Pr
namespace Go.Proofs.YtnbbbjfjkhglhaaGreatDoor.Pr
open Go.RowKit Go.Proofs.YtnbbbjfjkhglhaaGreatDoorW.PrintWords Go.Proofs.YtnbbbjfjkhglhaaGreatDoorW.PrintLast Go.Proofs.YtnbbbjfjkhglhaaGreatDoorW.PrintMore
attribute [local go_sem] max2_int min2_int max_two min_two max_three min_three max_four min_four
set_option linter.unusedVariables false
set_option linter.unusedSimpArgs false
def qxv.f (a0:Bool):Option (ByteArray):=if a0=true then(some (⟨#[116,114,117,101]⟩ : ByteArray)) else(some (⟨#[102,97,108,115,101]⟩ : ByteArray))
theorem qxv.calls (a0:Bool) (r:ByteArray) (w:World) (h:qxv.f a0=some r) :
  Calls Tryz.prog 77 #[.bool a0] w fun e w'=>e=.returned (.string r)∧Drawn0 w w':=by
 unfold qxv.f at h;have H:=h;clear h
 by_cases c2:a0=true
 ·subst c2;have H1:(some (⟨#[116,114,117,101]⟩ : ByteArray))=some r:=by rw[if_pos rfl] at H;exact H
  clear H;have H:=H1;clear H1;obtain rfl:=Option.some.inj H;go_enter Tryz.func77,Tryz.ntmps77;go_wp2;go_ret
  exact⟨by first|rfl|(simp;done)|(simp[*];done),by repeat(first|exact Drawn0.refl _|apply Drawn0.step)⟩
 ·replace c2:=jq9.mpr c2;subst c2;have H1:(some (⟨#[102,97,108,115,101]⟩ : ByteArray))=some r:=by rw[if_neg (show ¬ (false=true) by decide)] at H;exact H
  clear H;have H:=H1;clear H1;obtain rfl:=Option.some.inj H;go_enter Tryz.func77,Tryz.ntmps77;go_wp2;go_ret
  exact⟨by first|rfl|(simp;done)|(simp[*];done),by repeat(first|exact Drawn0.refl _|apply Drawn0.step)⟩
end Go.Proofs.YtnbbbjfjkhglhaaGreatDoor.Pr
namespace Go.Proofs.YtnbbbjfjkhglhaaGreatDoor.Pr
open Go.RowKit Go.Proofs.YtnbbbjfjkhglhaaGreatDoorW.PrintWords Go.Proofs.YtnbbbjfjkhglhaaGreatDoorW.PrintLast Go.Proofs.YtnbbbjfjkhglhaaGreatDoorW.PrintMore
attribute [local go_sem] max2_int min2_int max_two min_two max_three min_three max_four min_four
set_option linter.unusedVariables false
set_option linter.unusedSimpArgs false
def qxk.f (a0:Bool):Option (ByteArray):=(qxv.f a0).bind fun t101=>(some t101)
theorem qxk.calls (a0:Bool) (r:ByteArray) (w:World) (h:qxk.f a0=some r) :
  Calls Tryz.prog 54 #[.bool a0] w fun e w'=>e=.returned (.string r)∧Drawn0 w w':=by
 have H:((qxv.f a0).bind fun t101=>(some t101))=some r:=h;clear h;replace H:=jq8.mp H;obtain⟨t101,A20,H⟩:=H;replace H:(some t101)=some r:=H;have A2:=O.mk A20;clear A20;obtain rfl:=Option.some.inj H;go_enter Tryz.func54,Tryz.ntmps54;go_wp2_with (first|((with_reducible refine jq (f:=77) rfl ?_);refine goesL_ (some 4) rfl rfl Tryz.func77 (by kernel_rfl) rfl #[.bool a0] rfl (by(try simp only[jq0,jq1,jq2]);first|done|rfl|(simp only[jq3,jq4];rfl)) ?_;(with_reducible refine(qxv.calls a0 t101 _ A2.out).mono ?_);rintro e w' ⟨rfl,⟨nd,rfl⟩⟩;refine⟨_,rfl,?_⟩))
 go_ret
 exact⟨by first|rfl|(simp;done)|(simp[*];done),by repeat(first|exact Drawn0.refl _|apply Drawn0.step)⟩
end Go.Proofs.YtnbbbjfjkhglhaaGreatDoor.Pr
namespace Go.Proofs.YtnbbbjfjkhglhaaGreatDoor.Pr
open Go.RowKit Go.Proofs.YtnbbbjfjkhglhaaGreatDoorW.PrintWords Go.Proofs.YtnbbbjfjkhglhaaGreatDoorW.PrintLast Go.Proofs.YtnbbbjfjkhglhaaGreatDoorW.PrintMore
attribute [local go_sem] max2_int min2_int max_two min_two max_three min_three max_four min_four
set_option linter.unusedVariables false
set_option linter.unusedSimpArgs false
def vz.l0:Nat→Int→ByteArray→Int→Int→Int→ByteArray→ByteArray→Option (ByteArray)
 | 0,_,_,_,_,_,_,_=>none
 | k + 1,x6,x7,x8,x102000,x102001,x102002,x102003=>if x8 ≥ 0 then(if 0≤x8 then((strconv_Itoa.f (Go.bits .and .i64 (shr .i64 x6 x8) 255)).bind fun t111=>(if t111.size + 1≤9223372036854775807 then(if x7.size + (t111 ++ (⟨#[46]⟩ : ByteArray)).size≤9223372036854775807 then(vz.l0 k x6 (x7 ++ (t111 ++ (⟨#[46]⟩ : ByteArray))) (wrap64 (x8 - 8)) x102000 x102001 x102002 x102003) else(none)) else(none))) else(none)) else(if 0≤(wrap64 ((x7.size:Int) - 1)) then(if (wrap64 ((x7.size:Int) - 1))≤(x7.size:Int) then(if (x7.extract 0 ((wrap64 ((x7.size:Int) - 1)):Int).toNat).size + 1≤9223372036854775807 then((strconv_Itoa.f (Int.tmod x102001 64)).bind fun t112=>(if ((x7.extract 0 ((wrap64 ((x7.size:Int) - 1)):Int).toNat) ++ (⟨#[47]⟩ : ByteArray)).size + t112.size≤9223372036854775807 then(some (((x7.extract 0 ((wrap64 ((x7.size:Int) - 1)):Int).toNat) ++ (⟨#[47]⟩ : ByteArray)) ++ t112)) else(none))) else(none)) else(none)) else(none))
def vz.f (k:Nat) (a0_0:Int) (a0_1:Int) (a0_2:ByteArray) (a0_3:ByteArray):Option (ByteArray):=(vx.f k a0_0 a0_1 a0_2 a0_3).bind fun t102=>(if t102=true then(if a0_0=1 then((qxk.f (a0_1 == 1)).bind fun t103=>(some t103)) else(if a0_0=2 then((strconv_Itoa.f a0_1).bind fun t104=>(some t104)) else(if a0_0=3 then((xw.f a0_2).bind fun t105=>(some t105)) else(if a0_0=4 then(if a0_3.size + 2≤9223372036854775807 then((xw.f a0_2).bind fun t106=>(if (a0_3 ++ (⟨#[58,58]⟩ : ByteArray)).size + t106.size≤9223372036854775807 then(some ((a0_3 ++ (⟨#[58,58]⟩ : ByteArray)) ++ t106)) else(none))) else(none)) else(if a0_0=5 then(if a0_1 < 0 then((qxw.f (IntKind.u64.wrap ((Int.tmod (IntKind.u64.wrap (-(IntKind.u64.wrap (a0_1)))) 10000) + 10000)) 10).bind fun t107=>((qxw.f (IntKind.u64.wrap (Int.tdiv (IntKind.u64.wrap (-(IntKind.u64.wrap (a0_1)))) 10000)) 10).bind fun t108=>(if 1 + t108.size≤9223372036854775807 then(if ((⟨#[45]⟩ : ByteArray) ++ t108).size + 1≤9223372036854775807 then(if 1≤(t107.size:Int) then(if (((⟨#[45]⟩ : ByteArray) ++ t108) ++ (⟨#[46]⟩ : ByteArray)).size + (t107.extract 1 t107.size).size≤9223372036854775807 then(some ((((⟨#[45]⟩ : ByteArray) ++ t108) ++ (⟨#[46]⟩ : ByteArray)) ++ (t107.extract 1 t107.size))) else(none)) else(none)) else(none)) else(none)))) else((qxw.f (IntKind.u64.wrap ((Int.tmod (IntKind.u64.wrap (a0_1)) 10000) + 10000)) 10).bind fun t109=>((qxw.f (IntKind.u64.wrap (Int.tdiv (IntKind.u64.wrap (a0_1)) 10000)) 10).bind fun t110=>(if 0 + t110.size≤9223372036854775807 then(if ((⟨#[]⟩ : ByteArray) ++ t110).size + 1≤9223372036854775807 then(if 1≤(t109.size:Int) then(if (((⟨#[]⟩ : ByteArray) ++ t110) ++ (⟨#[46]⟩ : ByteArray)).size + (t109.extract 1 t109.size).size≤9223372036854775807 then(some ((((⟨#[]⟩ : ByteArray) ++ t110) ++ (⟨#[46]⟩ : ByteArray)) ++ (t109.extract 1 t109.size))) else(none)) else(none)) else(none)) else(none))))) else(if a0_0=6 then(vz.l0 k (wrap64 (Int.tdiv a0_1 64)) (⟨#[]⟩ : ByteArray) 24 a0_0 a0_1 a0_2 a0_3) else((strconv_Itoa.f a0_1).bind fun t113=>(if 1 + t113.size≤9223372036854775807 then(some ((⟨#[64]⟩ : ByteArray) ++ t113)) else(none))))))))) else(some (⟨#[]⟩ : ByteArray)))
def vz.T11:Bool × List (List Nat × List Nat):=(true,[([],[]),([0],[0]),([1],[1]),([],[]),([3],[3]),([4],[4]),([2,5],[2,5]),([6,5,0,1,2,3,4,5,6],[6])])
def vz.B11:List Nat:=[0,1,3,0,8,24,63,127]
theorem vz.tab11:rtab .any (opsOf Tryz.f25 11)=vz.T11:=by kernel_rfl
theorem vz.bits11:waitsOk vz.T11.2 vz.B11=true:=by kernel_rfl
def vz.T17:Bool × List (List Nat × List Nat):=(true,[([],[]),([],[]),([1],[1]),([2],[2]),([0,3],[0,3]),([4],[4]),([],[]),([6],[6]),([5,7],[5,7]),([8,3,0,1,2,3,4,5,6,7,8],[8])])
def vz.B17:List Nat:=[0,0,2,6,15,31,0,64,255,511]
theorem vz.tab17:rtab .any (opsOf Tryz.f25 17)=vz.T17:=by kernel_rfl
theorem vz.bits17:waitsOk vz.T17.2 vz.B17=true:=by kernel_rfl
def vz.T25:Bool × List (List Nat × List Nat):=(true,[([],[]),([],[]),([1],[1]),([2],[2]),([0,3],[0,3]),([4],[4]),([],[]),([6],[6]),([7],[7]),([8],[8]),([5,9],[5,9]),([10,9,0,1,2,3,4,5,6,7,8,9,10],[10])])
def vz.B25:List Nat:=[0,0,2,6,15,31,0,64,192,448,1023,2047]
theorem vz.tab25:rtab .any (opsOf Tryz.f25 25)=vz.T25:=by kernel_rfl
theorem vz.bits25:waitsOk vz.T25.2 vz.B25=true:=by kernel_rfl
theorem vz.calls (k:Nat) (a0_0:Int) (a0_1:Int) (a0_2:ByteArray) (a0_3:ByteArray) (r:ByteArray) (w:World) (htab:TabW w) (h:vz.f k a0_0 a0_1 a0_2 a0_3=some r) :
  Calls Tryz.prog 25 #[.agg #[.int .i64 a0_0,.int .i64 a0_1,.string a0_2,.string a0_3]] w fun e w'=>e=.returned (.string r)∧Below w.heap.size w w':=by
 have HTAB:=O.mk htab;clear htab;have hu28:=Tryz.underlying28;have HB:=O.mk (Below.refl w.heap.size w);unfold vz.f at h;have H:=h;clear h;replace H:=jq8.mp H;obtain⟨t102,A20,H⟩:=H;try dsimp only at H
 have A2:=O.mk A20;clear A20
 by_cases c3:t102=true
 ·subst c3;have H1:(if a0_0=1 then((qxk.f (a0_1 == 1)).bind fun t103=>(some t103)) else(if a0_0=2 then((strconv_Itoa.f a0_1).bind fun t104=>(some t104)) else(if a0_0=3 then((xw.f a0_2).bind fun t105=>(some t105)) else(if a0_0=4 then(if a0_3.size + 2≤9223372036854775807 then((xw.f a0_2).bind fun t106=>(if (a0_3 ++ (⟨#[58,58]⟩ : ByteArray)).size + t106.size≤9223372036854775807 then(some ((a0_3 ++ (⟨#[58,58]⟩ : ByteArray)) ++ t106)) else(none))) else(none)) else(if a0_0=5 then(if a0_1 < 0 then((qxw.f (IntKind.u64.wrap ((Int.tmod (IntKind.u64.wrap (-(IntKind.u64.wrap (a0_1)))) 10000) + 10000)) 10).bind fun t107=>((qxw.f (IntKind.u64.wrap (Int.tdiv (IntKind.u64.wrap (-(IntKind.u64.wrap (a0_1)))) 10000)) 10).bind fun t108=>(if 1 + t108.size≤9223372036854775807 then(if ((⟨#[45]⟩ : ByteArray) ++ t108).size + 1≤9223372036854775807 then(if 1≤(t107.size:Int) then(if (((⟨#[45]⟩ : ByteArray) ++ t108) ++ (⟨#[46]⟩ : ByteArray)).size + (t107.extract 1 t107.size).size≤9223372036854775807 then(some ((((⟨#[45]⟩ : ByteArray) ++ t108) ++ (⟨#[46]⟩ : ByteArray)) ++ (t107.extract 1 t107.size))) else(none)) else(none)) else(none)) else(none)))) else((qxw.f (IntKind.u64.wrap ((Int.tmod (IntKind.u64.wrap (a0_1)) 10000) + 10000)) 10).bind fun t109=>((qxw.f (IntKind.u64.wrap (Int.tdiv (IntKind.u64.wrap (a0_1)) 10000)) 10).bind fun t110=>(if 0 + t110.size≤9223372036854775807 then(if ((⟨#[]⟩ : ByteArray) ++ t110).size + 1≤9223372036854775807 then(if 1≤(t109.size:Int) then(if (((⟨#[]⟩ : ByteArray) ++ t110) ++ (⟨#[46]⟩ : ByteArray)).size + (t109.extract 1 t109.size).size≤9223372036854775807 then(some ((((⟨#[]⟩ : ByteArray) ++ t110) ++ (⟨#[46]⟩ : ByteArray)) ++ (t109.extract 1 t109.size))) else(none)) else(none)) else(none)) else(none))))) else(if a0_0=6 then(vz.l0 k (wrap64 (Int.tdiv a0_1 64)) (⟨#[]⟩ : ByteArray) 24 a0_0 a0_1 a0_2 a0_3) else((strconv_Itoa.f a0_1).bind fun t113=>(if 1 + t113.size≤9223372036854775807 then(some ((⟨#[64]⟩ : ByteArray) ++ t113)) else(none)))))))))=some r:=by rw[if_pos rfl] at H;exact H
  clear H;have H:=H1;clear H1
  by_cases c4:a0_0=1
  ·rw[if_pos c4] at H;have c4b0:(a0_0 == 1)=true:=beq_iff_eq.mpr c4;have c4b1:(a0_0 != 1)=false:=bne_eq_false_iff_eq.mpr c4;clear c4;replace H:=jq8.mp H;obtain⟨t103,A50,H⟩:=H;replace H:(some t103)=some r:=H;have A5:=O.mk A50;clear A50;obtain rfl:=Option.some.inj H;go_enter Tryz.func25,Tryz.ntmps25;go_wp2_with (first|((with_reducible refine gate_dst (N:=1) rfl ?_);refine box_event ?hg (N:=1) ?hd (cs:=#[.int .i64 a0_0,.int .i64 a0_1,.string a0_2,.string a0_3]) (t:=28) ?hr ?_;(case hd=>rfl);(case hg=>rfl);(case hr=>first|(go_simp;done)|(go_simp;rfl));intro gb101 hg w6 hbox hb;have BK101:=O.mk (hbox);have GW101:=O.mk ((by rw[hg];exact(zz (by solve_by_elim only[HB.out,J,L,I])):w.heap.size≤gb101));have GE101:=GW101;replace HB:=O.mk (zq (by solve_by_elim only[HB.out,J,L,I]) hb);clear hb hbox hg;obtain⟨y7_0,y7_1,y7_2,y7_3,z7_0,z7_1,z7_2,z7_3⟩:=bx4f BK101.out)|((with_reducible refine jq (f:=52) rfl ?_);refine goesL_ (some 10) rfl rfl Tryz.func52 (by kernel_rfl) rfl #[.agg #[.int .i64 a0_0,.int .i64 a0_1,.string a0_2,.string a0_3]] rfl (by(try simp only[jq0,jq1,jq2]);first|done|rfl|(simp only[jq3,jq4];rfl)) ?_;(with_reducible refine(vx.calls k a0_0 a0_1 a0_2 a0_3 true _ A2.out).mono ?_);rintro e w8 ⟨rfl,hb⟩;refine⟨_,rfl,?_⟩;replace BK101:=O.mk (kz (by solve_by_elim only[BK101.out,qv,qw,qk]) hb);replace HB:=O.mk (zq (by solve_by_elim (maxDepth:=20) only[HB.out,J,L,I,qj,GE101.out]) hb);(try clear hb);obtain⟨y9_0,y9_1,y9_2,y9_3,z9_0,z9_1,z9_2,z9_3⟩:=bx4f BK101.out)|((with_reducible refine jq (f:=54) rfl ?_);refine goesL_ (some 19) rfl rfl Tryz.func54 (by kernel_rfl) rfl #[.bool (a0_1 == 1)] rfl (by(try simp only[jq0,jq1,jq2]);first|done|rfl|(simp only[jq3,jq4];rfl)) ?_;(with_reducible refine(qxk.calls (a0_1 == 1) t103 _ A5.out).mono ?_);rintro e w' ⟨rfl,⟨nd,rfl⟩⟩;refine⟨_,rfl,?_⟩))
   go_ret
   exact⟨by first|rfl|(simp[*,zx,zw] <;> rfl),by solve_by_elim (maxDepth:=20) only[HB.out,J,L,I,qj,GE101.out]⟩
  ·rw[if_neg c4] at H;have c4b0:(a0_0 == 1)=false:=beq_eq_false_iff_ne.mpr c4;have c4b1:(a0_0 != 1)=true:=bne_iff_ne.mpr c4
   by_cases c10:a0_0=2
   ·rw[if_pos c10] at H;have c10b0:(a0_0 == 2)=true:=beq_iff_eq.mpr c10;have c10b1:(a0_0 != 2)=false:=bne_eq_false_iff_eq.mpr c10;clear c10;replace H:=jq8.mp H;obtain⟨t104,A110,H⟩:=H;replace H:(some t104)=some r:=H;have A11:=O.mk A110;clear A110;obtain rfl:=Option.some.inj H;go_enter Tryz.func25,Tryz.ntmps25;go_wp2_with (first|((with_reducible refine gate_dst (N:=1) rfl ?_);refine box_event ?hg (N:=1) ?hd (cs:=#[.int .i64 a0_0,.int .i64 a0_1,.string a0_2,.string a0_3]) (t:=28) ?hr ?_;(case hd=>rfl);(case hg=>rfl);(case hr=>first|(go_simp;done)|(go_simp;rfl));intro gb101 hg w12 hbox hb;have BK101:=O.mk (hbox);have GW101:=O.mk ((by rw[hg];exact(zz (by solve_by_elim only[HB.out,J,L,I])):w.heap.size≤gb101));have GE101:=GW101;replace HB:=O.mk (zq (by solve_by_elim only[HB.out,J,L,I]) hb);clear hb hbox hg;obtain⟨y13_0,y13_1,y13_2,y13_3,z13_0,z13_1,z13_2,z13_3⟩:=bx4f BK101.out)|((with_reducible refine jq (f:=52) rfl ?_);refine goesL_ (some 10) rfl rfl Tryz.func52 (by kernel_rfl) rfl #[.agg #[.int .i64 a0_0,.int .i64 a0_1,.string a0_2,.string a0_3]] rfl (by(try simp only[jq0,jq1,jq2]);first|done|rfl|(simp only[jq3,jq4];rfl)) ?_;(with_reducible refine(vx.calls k a0_0 a0_1 a0_2 a0_3 true _ A2.out).mono ?_);rintro e w14 ⟨rfl,hb⟩;refine⟨_,rfl,?_⟩;replace BK101:=O.mk (kz (by solve_by_elim only[BK101.out,qv,qw,qk]) hb);replace HB:=O.mk (zq (by solve_by_elim (maxDepth:=20) only[HB.out,J,L,I,qj,GE101.out]) hb);(try clear hb);obtain⟨y15_0,y15_1,y15_2,y15_3,z15_0,z15_1,z15_2,z15_3⟩:=bx4f BK101.out)|((with_reducible refine jq (f:=55) rfl ?_);refine goesL_ (some 24) rfl rfl Tryz.func55 (by kernel_rfl) rfl #[.int .i64 a0_1] rfl (by(try simp only[jq0,jq1,jq2]);first|done|rfl|(simp only[jq3,jq4];rfl)) ?_;(with_reducible refine(strconv_Itoa.calls a0_1 t104 _ ?tabw A11.out).mono ?_);(case tabw=>repeat(first|exact HTAB.out|exact TabW_below HTAB.out HB.out|exact TabW_below HTAB.out (by repeat(first|exact HB.out|apply J|apply L|apply I|refine qj ?_ GE101.out))|(with_reducible refine TabW_drewN ?_ _)|(with_reducible refine TabW_drew ?_)|(with_reducible refine TabW_alloc ?_ _)));rintro e w16 ⟨rfl,hb⟩;refine⟨_,rfl,?_⟩;replace BK101:=O.mk (kz (by solve_by_elim only[BK101.out,qv,qw,qk]) hb);replace HB:=O.mk (zq (by solve_by_elim (maxDepth:=20) only[HB.out,J,L,I,qj,GE101.out]) hb);(try clear hb)))
    go_ret
    exact⟨by first|rfl|(simp[*,zx,zw] <;> rfl),by solve_by_elim (maxDepth:=20) only[HB.out,J,L,I,qj,GE101.out]⟩
   ·rw[if_neg c10] at H;have c10b0:(a0_0 == 2)=false:=beq_eq_false_iff_ne.mpr c10;have c10b1:(a0_0 != 2)=true:=bne_iff_ne.mpr c10
    by_cases c17:a0_0=3
    ·rw[if_pos c17] at H;have c17b0:(a0_0 == 3)=true:=beq_iff_eq.mpr c17;have c17b1:(a0_0 != 3)=false:=bne_eq_false_iff_eq.mpr c17;clear c17;replace H:=jq8.mp H;obtain⟨t105,A180,H⟩:=H;replace H:(some t105)=some r:=H;have A18:=O.mk A180;clear A180;obtain rfl:=Option.some.inj H;go_enter Tryz.func25,Tryz.ntmps25;go_wp2_with (first|((with_reducible refine gate_dst (N:=1) rfl ?_);refine box_event ?hg (N:=1) ?hd (cs:=#[.int .i64 a0_0,.int .i64 a0_1,.string a0_2,.string a0_3]) (t:=28) ?hr ?_;(case hd=>rfl);(case hg=>rfl);(case hr=>first|(go_simp;done)|(go_simp;rfl));intro gb101 hg w19 hbox hb;have BK101:=O.mk (hbox);have GW101:=O.mk ((by rw[hg];exact(zz (by solve_by_elim only[HB.out,J,L,I])):w.heap.size≤gb101));have GE101:=GW101;replace HB:=O.mk (zq (by solve_by_elim only[HB.out,J,L,I]) hb);clear hb hbox hg;obtain⟨y20_0,y20_1,y20_2,y20_3,z20_0,z20_1,z20_2,z20_3⟩:=bx4f BK101.out)|((with_reducible refine jq (f:=52) rfl ?_);refine goesL_ (some 10) rfl rfl Tryz.func52 (by kernel_rfl) rfl #[.agg #[.int .i64 a0_0,.int .i64 a0_1,.string a0_2,.string a0_3]] rfl (by(try simp only[jq0,jq1,jq2]);first|done|rfl|(simp only[jq3,jq4];rfl)) ?_;(with_reducible refine(vx.calls k a0_0 a0_1 a0_2 a0_3 true _ A2.out).mono ?_);rintro e w21 ⟨rfl,hb⟩;refine⟨_,rfl,?_⟩;replace BK101:=O.mk (kz (by solve_by_elim only[BK101.out,qv,qw,qk]) hb);replace HB:=O.mk (zq (by solve_by_elim (maxDepth:=20) only[HB.out,J,L,I,qj,GE101.out]) hb);(try clear hb);obtain⟨y22_0,y22_1,y22_2,y22_3,z22_0,z22_1,z22_2,z22_3⟩:=bx4f BK101.out)|((with_reducible refine jq (f:=56) rfl ?_);refine goesL_ (some 29) rfl rfl Tryz.func56 (by kernel_rfl) rfl #[.string a0_2] rfl (by(try simp only[jq0,jq1,jq2]);first|done|rfl|(simp only[jq3,jq4];rfl)) ?_;(with_reducible refine(xw.calls a0_2 t105 _ A18.out).mono ?_);rintro e w23 ⟨rfl,hb⟩;refine⟨_,rfl,?_⟩;replace BK101:=O.mk (kz (by solve_by_elim only[BK101.out,qv,qw,qk]) hb);replace HB:=O.mk (zq (by solve_by_elim (maxDepth:=20) only[HB.out,J,L,I,qj,GE101.out]) hb);(try clear hb)))
     go_ret
     exact⟨by first|rfl|(simp[*,zx,zw] <;> rfl),by solve_by_elim (maxDepth:=20) only[HB.out,J,L,I,qj,GE101.out]⟩
    ·rw[if_neg c17] at H;have c17b0:(a0_0 == 3)=false:=beq_eq_false_iff_ne.mpr c17;have c17b1:(a0_0 != 3)=true:=bne_iff_ne.mpr c17
     by_cases c24:a0_0=4
     ·rw[if_pos c24] at H;have c24b0:(a0_0 == 4)=true:=beq_iff_eq.mpr c24;have c24b1:(a0_0 != 4)=false:=bne_eq_false_iff_eq.mpr c24;clear c24
      by_cases c25:a0_3.size + 2≤9223372036854775807
      ·rw[if_pos c25] at H;have c25b0:=eq_true c25;have c25b1:decide (a0_3.size + 2≤9223372036854775807)=true:=decide_eq_true c25;try have c25b2:(9223372036854775807 < a0_3.size + 2)=False:=eq_false (Nat.not_lt.2 c25)
       replace H:=jq8.mp H;obtain⟨t106,A260,H⟩:=H;try dsimp only at H
       have A26:=O.mk A260;clear A260
       by_cases c27:(a0_3 ++ (⟨#[58,58]⟩ : ByteArray)).size + t106.size≤9223372036854775807
       ·rw[if_pos c27] at H;have c27b0:=eq_true c27;have c27b1:decide ((a0_3 ++ (⟨#[58,58]⟩ : ByteArray)).size + t106.size≤9223372036854775807)=true:=decide_eq_true c27;try have c27b2:(9223372036854775807 < (a0_3 ++ (⟨#[58,58]⟩ : ByteArray)).size + t106.size)=False:=eq_false (Nat.not_lt.2 c27)
        try (have c27b9:=c27b2;simp only[ByteArray.size_append,show(⟨#[58,58]⟩ : ByteArray).size=2 from rfl] at c27b9)
        obtain rfl:=Option.some.inj H;go_enter Tryz.func25,Tryz.ntmps25;try go_wp2_with (first|((with_reducible refine gate_dst (N:=1) rfl ?_);refine box_event ?hg (N:=1) ?hd (cs:=#[.int .i64 a0_0,.int .i64 a0_1,.string a0_2,.string a0_3]) (t:=28) ?hr ?_;(case hd=>rfl);(case hg=>rfl);(case hr=>first|(go_simp;done)|(go_simp;rfl));intro gb101 hg w28 hbox hb;have BK101:=O.mk (hbox);have GW101:=O.mk ((by rw[hg];exact(zz (by solve_by_elim only[HB.out,J,L,I])):w.heap.size≤gb101));have GE101:=GW101;replace HB:=O.mk (zq (by solve_by_elim only[HB.out,J,L,I]) hb);clear hb hbox hg;obtain⟨y29_0,y29_1,y29_2,y29_3,z29_0,z29_1,z29_2,z29_3⟩:=bx4f BK101.out)|((with_reducible refine jq (f:=52) rfl ?_);refine goesL_ (some 10) rfl rfl Tryz.func52 (by kernel_rfl) rfl #[.agg #[.int .i64 a0_0,.int .i64 a0_1,.string a0_2,.string a0_3]] rfl (by(try simp only[jq0,jq1,jq2]);first|done|rfl|(simp only[jq3,jq4];rfl)) ?_;(with_reducible refine(vx.calls k a0_0 a0_1 a0_2 a0_3 true _ A2.out).mono ?_);rintro e w30 ⟨rfl,hb⟩;refine⟨_,rfl,?_⟩;replace BK101:=O.mk (kz (by solve_by_elim only[BK101.out,qv,qw,qk]) hb);replace HB:=O.mk (zq (by solve_by_elim (maxDepth:=20) only[HB.out,J,L,I,qj,GE101.out]) hb);(try clear hb);obtain⟨y31_0,y31_1,y31_2,y31_3,z31_0,z31_1,z31_2,z31_3⟩:=bx4f BK101.out))
        replace BK101:=O.mk (qw BK101.out);replace HB:=O.mk (I HB.out);refine start_ (n:=8) (S:=fun w'=>w'.cell? ⟨gb101,0,none⟩ = some (.int .i64 a0_0)∧w'.cell? ⟨gb101,1,none⟩ = some (.int .i64 a0_1)∧w'.cell? ⟨gb101,2,none⟩ = some (.string a0_2)∧w'.cell? ⟨gb101,3,none⟩ = some (.string a0_3)) (ds:=[]) #[U,U,U,U,U,U,U,U] (by kernel_rfl) rfl rfl ⟨(qz BK101.out 0).trans rfl,(qz BK101.out 1).trans rfl,(qz BK101.out 2).trans rfl,(qz BK101.out 3).trans rfl⟩ (fun hHeld=>?_);refine with_tabW vz.tab11 vz.bits11 (fun HT_ HW_=>?_)
        generalize w30.drew=w32 at BK101 HB hHeld ⊢;refine pure_ (i:=0) (N:=some 32) (v:=?_) (a':=?_) #[Z,U,U,U,U,U,U,U] rfl rfl (any_of HT_.out (by kernel_rfl)) (fun _ _ _ h=>h) (Or.inl ⟨by rfl,?_⟩) ?_ ?_;rotate_left
        ·intro w'
         go_simp
         with_reducible rfl
        rotate_left
        ·simp only[Act.put,jq5,jq6,jq7,i64_w,i32_w]
         rfl
        refine pure_ (i:=3) (N:=some 35) (v:=?_) (a':=?_) #[Z,U,U,Z,U,U,U,U] rfl rfl (any_of HT_.out (by kernel_rfl)) (fun _ _ _ h=>h) (Or.inl ⟨by rfl,?_⟩) ?_ ?_;rotate_left
        ·intro w'
         go_simp
         with_reducible rfl
        rotate_left
        ·simp only[Act.put,jq5,jq6,jq7,i64_w,i32_w]
         rfl
        refine take_ (i:=1) (N:=some 33) (v:=?_) (a':=?_) #[Z,Z,U,Z,U,U,U,U] rfl rfl (take_ofW HT_.out HW_.out (by kernel_rfl)) (fun _ _ _ h=>h) (Or.inl ⟨by rfl,?_⟩) hHeld ?_ ?_;rotate_left
        ·rintro w' ⟨s0,s1,s2,s3⟩
         go_simp
         with_reducible rfl
        rotate_left
        ·simp only[Act.put,jq5,jq6,jq7,i64_w,i32_w]
         rfl
        refine pure_ (i:=2) (N:=some 34) (v:=?_) (a':=?_) #[Z,Z,Z,Z,U,U,U,U] rfl rfl (any_of HT_.out (by kernel_rfl)) (fun _ _ _ h=>h) (Or.inl ⟨by rfl,?_⟩) ?_ ?_;rotate_left
        ·intro w'
         go_simp
         with_reducible rfl
        rotate_left
        ·simp only[Act.put,jq5,jq6,jq7,i64_w,i32_w]
         rfl
        refine take_ (i:=4) (N:=some 36) (v:=?_) (a':=?_) #[Z,Z,Z,Z,Z,U,U,U] rfl rfl (take_ofW HT_.out HW_.out (by kernel_rfl)) (fun _ _ _ h=>h) (Or.inl ⟨by rfl,?_⟩) hHeld ?_ ?_;rotate_left
        ·rintro w' ⟨s0,s1,s2,s3⟩
         go_simp
         with_reducible rfl
        rotate_left
        ·simp only[Act.put,jq5,jq6,jq7,i64_w,i32_w]
         rfl
        refine one_ (i:=5) (N:=some 37) #[Z,Z,Z,Z,Z,Z,U,U] rfl rfl (one_of HT_.out (by kernel_rfl)) (by decide) (fun K hK=>?_);refine goes_ Tryz.func56 (by kernel_rfl) rfl #[.string a0_2] (by rfl) rfl rfl (by(try simp only[jq0,jq1,jq2]);first|done|rfl|(simp only[jq3,jq4];rfl)) ?_
        with_reducible refine(xw.calls a0_2 t106 _ A26.out).mono ?_
        rintro e w33 ⟨rfl,hb⟩
        refine⟨_,rfl,?_⟩;replace BK101:=O.mk (kz (by solve_by_elim only[BK101.out,qv,qw,qk]) hb);replace HB:=O.mk (zq (by solve_by_elim (maxDepth:=20) only[HB.out,J,L,I,qj,GE101.out]) hb)
        (try clear hb)
        (try clear hb2)
        (try clear hk)
        (try clear hi)
        refine hK.out _ _ (by(repeat' apply And.intro) <;> first|exact(qz BK101.out _).trans rfl) (fun hHeld=>?_);clear hK K;refine norm_ (a':=?_) ?_ ?_;rotate_left
        ·show Act.put _ (some 37) _=_
         simp only[Act.put,jq5,jq6,jq7,i64_w,i32_w]
         rfl
        refine pure_ (i:=6) (N:=some 38) (v:=?_) (a':=?_) #[Z,Z,Z,Z,Z,Z,Z,U] rfl rfl (any_of HT_.out (by kernel_rfl)) (fun _ _ _ h=>h) (Or.inl ⟨by rfl,?_⟩) ?_ ?_;rotate_left
        ·intro w'
         go_simp
         with_reducible rfl
        rotate_left
        ·simp only[Act.put,jq5,jq6,jq7,i64_w,i32_w]
         rfl
        refine pure_ (i:=7) (N:=some 2) (v:=?_) (a':=?_) #[Z,Z,Z,Z,Z,Z,Z,Z] rfl rfl (any_of HT_.out (by kernel_rfl)) (fun _ _ _ h=>h) (Or.inl ⟨by rfl,?_⟩) ?_ ?_;rotate_left
        ·intro w'
         go_simp
         with_reducible rfl
        rotate_left
        ·simp only[Act.put,jq5,jq6,jq7,i64_w,i32_w]
         rfl
        refine done_ (done_of HT_.out (by kernel_rfl)) ?_;try go_wp2
        go_ret
        exact⟨by first|rfl|(simp[*,zx,zw] <;> rfl),by solve_by_elim (maxDepth:=20) only[HB.out,J,L,I,qj,GE101.out]⟩
       ·rw[if_neg c27] at H;exact absurd H (by simp)
      ·rw[if_neg c25] at H;exact absurd H (by simp)
     ·rw[if_neg c24] at H;have c24b0:(a0_0 == 4)=false:=beq_eq_false_iff_ne.mpr c24;have c24b1:(a0_0 != 4)=true:=bne_iff_ne.mpr c24
      by_cases c34:a0_0=5
      ·rw[if_pos c34] at H;have c34b0:(a0_0 == 5)=true:=beq_iff_eq.mpr c34;have c34b1:(a0_0 != 5)=false:=bne_eq_false_iff_eq.mpr c34;clear c34
       by_cases c35:a0_1 < 0
       ·rw[if_pos c35] at H;have c35b0:decide (a0_1 < 0)=true:=decide_eq_true c35;clear c35;replace H:=jq8.mp H;obtain⟨t107,A360,H⟩:=H;try dsimp only at H
        have A36:=O.mk A360;clear A360;replace H:=jq8.mp H;obtain⟨t108,A370,H⟩:=H;try dsimp only at H
        have A37:=O.mk A370;clear A370
        by_cases c38 : 1 + t108.size≤9223372036854775807
        ·rw[if_pos c38] at H;have c38b0:=eq_true c38;have c38b1:decide (1 + t108.size≤9223372036854775807)=true:=decide_eq_true c38;try have c38b2:(9223372036854775807 < 1 + t108.size)=False:=eq_false (Nat.not_lt.2 c38)
         by_cases c39:((⟨#[45]⟩ : ByteArray) ++ t108).size + 1≤9223372036854775807
         ·rw[if_pos c39] at H;have c39b0:=eq_true c39;have c39b1:decide (((⟨#[45]⟩ : ByteArray) ++ t108).size + 1≤9223372036854775807)=true:=decide_eq_true c39;try have c39b2:(9223372036854775807 < ((⟨#[45]⟩ : ByteArray) ++ t108).size + 1)=False:=eq_false (Nat.not_lt.2 c39)
          try (have c39b9:=c39b2;simp only[ByteArray.size_append,show(⟨#[45]⟩ : ByteArray).size=1 from rfl] at c39b9)
          by_cases c40 : 1≤(t107.size:Int)
          ·rw[if_pos c40] at H;have c40b0:=eq_true c40;have c40b1:decide (1≤(t107.size:Int))=true:=decide_eq_true c40;clear c40
           by_cases c41:(((⟨#[45]⟩ : ByteArray) ++ t108) ++ (⟨#[46]⟩ : ByteArray)).size + (t107.extract 1 t107.size).size≤9223372036854775807
           ·rw[if_pos c41] at H;have c41b0:=eq_true c41;have c41b1:decide ((((⟨#[45]⟩ : ByteArray) ++ t108) ++ (⟨#[46]⟩ : ByteArray)).size + (t107.extract 1 t107.size).size≤9223372036854775807)=true:=decide_eq_true c41;try have c41b2:(9223372036854775807 < (((⟨#[45]⟩ : ByteArray) ++ t108) ++ (⟨#[46]⟩ : ByteArray)).size + (t107.extract 1 t107.size).size)=False:=eq_false (Nat.not_lt.2 c41)
            have c41b5:(9223372036854775807 < 1 + t108.size + 1 + (t107.size - 1))=False:=eq_false (by
             have e_:=c41;simp only[ByteArray.size_append,ByteArray.size_extract,Nat.min_self,Nat.zero_add,show(⟨#[]⟩ : ByteArray).size=0 from rfl,show(⟨#[45]⟩ : ByteArray).size=1 from rfl,show(⟨#[46]⟩ : ByteArray).size=1 from rfl] at e_;exact Nat.not_lt.2 e_)
            try (have c41b9:=c41b2;simp only[ByteArray.size_append,show(⟨#[45]⟩ : ByteArray).size=1 from rfl,show(⟨#[46]⟩ : ByteArray).size=1 from rfl] at c41b9)
            obtain rfl:=Option.some.inj H;go_enter Tryz.func25,Tryz.ntmps25;try go_wp2_with (first|((with_reducible refine gate_dst (N:=1) rfl ?_);refine box_event ?hg (N:=1) ?hd (cs:=#[.int .i64 a0_0,.int .i64 a0_1,.string a0_2,.string a0_3]) (t:=28) ?hr ?_;(case hd=>rfl);(case hg=>rfl);(case hr=>first|(go_simp;done)|(go_simp;rfl));intro gb101 hg w42 hbox hb;have BK101:=O.mk (hbox);have GW101:=O.mk ((by rw[hg];exact(zz (by solve_by_elim only[HB.out,J,L,I])):w.heap.size≤gb101));have GE101:=GW101;replace HB:=O.mk (zq (by solve_by_elim only[HB.out,J,L,I]) hb);clear hb hbox hg;obtain⟨y43_0,y43_1,y43_2,y43_3,z43_0,z43_1,z43_2,z43_3⟩:=bx4f BK101.out)|((with_reducible refine jq (f:=52) rfl ?_);refine goesL_ (some 10) rfl rfl Tryz.func52 (by kernel_rfl) rfl #[.agg #[.int .i64 a0_0,.int .i64 a0_1,.string a0_2,.string a0_3]] rfl (by(try simp only[jq0,jq1,jq2]);first|done|rfl|(simp only[jq3,jq4];rfl)) ?_;(with_reducible refine(vx.calls k a0_0 a0_1 a0_2 a0_3 true _ A2.out).mono ?_);rintro e w44 ⟨rfl,hb⟩;refine⟨_,rfl,?_⟩;replace BK101:=O.mk (kz (by solve_by_elim only[BK101.out,qv,qw,qk]) hb);replace HB:=O.mk (zq (by solve_by_elim (maxDepth:=20) only[HB.out,J,L,I,qj,GE101.out]) hb);(try clear hb);obtain⟨y45_0,y45_1,y45_2,y45_3,z45_0,z45_1,z45_2,z45_3⟩:=bx4f BK101.out))
            replace BK101:=O.mk (qw BK101.out);replace HB:=O.mk (I HB.out);refine start_ (n:=5) (S:=fun w'=>w'.cell? ⟨gb101,0,none⟩ = some (.int .i64 a0_0)∧w'.cell? ⟨gb101,1,none⟩ = some (.int .i64 a0_1)∧w'.cell? ⟨gb101,2,none⟩ = some (.string a0_2)∧w'.cell? ⟨gb101,3,none⟩ = some (.string a0_3)) (ds:=[]) #[U,U,U,U,U] (by kernel_rfl) rfl rfl ⟨(qz BK101.out 0).trans rfl,(qz BK101.out 1).trans rfl,(qz BK101.out 2).trans rfl,(qz BK101.out 3).trans rfl⟩ (fun hHeld=>?_);generalize w44.drew=w46 at BK101 HB hHeld ⊢;refine pure_ (i:=0) (N:=some 41) (v:=?_) (a':=?_) #[Z,U,U,U,U] rfl rfl (by kernel_rfl) (fun _ _ _ h=>h) (Or.inl ⟨by rfl,?_⟩) ?_ ?_;rotate_left
            ·intro w'
             go_simp
             with_reducible rfl
            rotate_left
            ·simp only[Act.put,jq5,jq6,jq7,i64_w,i32_w]
             rfl
            refine pure_ (i:=3) (N:=some 3) (v:=?_) (a':=?_) #[Z,U,U,Z,U] rfl rfl (by kernel_rfl) (fun _ _ _ h=>h) (Or.inl ⟨by rfl,?_⟩) ?_ ?_;rotate_left
            ·intro w'
             go_simp
             with_reducible rfl
            rotate_left
            ·simp only[Act.put,jq5,jq6,jq7,i64_w,i32_w]
             rfl
            refine take_ (i:=1) (N:=some 42) (v:=?_) (a':=?_) #[Z,Z,U,Z,U] rfl rfl (by kernel_rfl) (fun _ _ _ h=>h) (Or.inl ⟨by rfl,?_⟩) hHeld ?_ ?_;rotate_left
            ·rintro w' ⟨s0,s1,s2,s3⟩
             go_simp
             with_reducible rfl
            rotate_left
            ·simp only[Act.put,jq5,jq6,jq7,i64_w,i32_w]
             rfl
            refine pure_ (i:=2) (N:=some 43) (v:=?_) (a':=?_) #[Z,Z,Z,Z,U] rfl rfl (by kernel_rfl) (fun _ _ _ h=>h) (Or.inl ⟨by rfl,?_⟩) ?_ ?_;rotate_left
            ·intro w'
             go_simp
             with_reducible rfl
            rotate_left
            ·simp only[Act.put,jq5,jq6,jq7,i64_w,i32_w]
             rfl
            refine pure_ (i:=4) (N:=some 4) (v:=?_) (a':=?_) #[Z,Z,Z,Z,Z] rfl rfl (by kernel_rfl) (fun _ _ _ h=>h) (Or.inl ⟨by rfl,?_⟩) ?_ ?_;rotate_left
            ·intro w'
             go_simp
             with_reducible rfl
            rotate_left
            ·simp only[Act.put,jq5,jq6,jq7,i64_w,i32_w]
             rfl
            refine done_ (by kernel_rfl) ?_;obtain⟨y47_0,y47_1,y47_2,y47_3,z47_0,z47_1,z47_2,z47_3⟩:=bx4f BK101.out;try go_wp2_with (first|((with_reducible refine jq (f:=57) rfl ?_);refine goesL_ (some 52) rfl rfl Tryz.func57 (by kernel_rfl) rfl #[.int .u64 (IntKind.u64.wrap ((Int.tmod (IntKind.u64.wrap (-(IntKind.u64.wrap (a0_1)))) 10000) + 10000)),.int .i64 10] rfl (by(try simp only[jq0,jq1,jq2]);first|done|rfl|(simp only[jq3,jq4];rfl)) ?_;(with_reducible refine(qxw.calls (IntKind.u64.wrap ((Int.tmod (IntKind.u64.wrap (-(IntKind.u64.wrap (a0_1)))) 10000) + 10000)) 10 t107 _ ?tabw A36.out).mono ?_);(case tabw=>repeat(first|exact HTAB.out|exact TabW_below HTAB.out HB.out|exact TabW_below HTAB.out (by repeat(first|exact HB.out|apply J|apply L|apply I|refine qj ?_ GE101.out))|(with_reducible refine TabW_drewN ?_ _)|(with_reducible refine TabW_drew ?_)|(with_reducible refine TabW_alloc ?_ _)));rintro e w48 ⟨rfl,hb⟩;refine⟨_,rfl,?_⟩;replace BK101:=O.mk (kz (by solve_by_elim only[BK101.out,qv,qw,qk]) hb);replace HB:=O.mk (zq (by solve_by_elim (maxDepth:=20) only[HB.out,J,L,I,qj,GE101.out]) hb);(try clear hb)))
            replace BK101:=O.mk (qw BK101.out);replace HB:=O.mk (I HB.out);refine start_ (n:=10) (S:=fun w'=>True) (ds:=[]) #[U,U,U,U,U,U,U,U,U,U] (by kernel_rfl) rfl rfl trivial (fun hHeld=>?_);refine with_tabW vz.tab17 vz.bits17 (fun HT_ HW_=>?_)
            generalize w48.drew=w49 at BK101 HB hHeld ⊢;refine pure_ (i:=0) (N:=some 53) (v:=?_) (a':=?_) #[Z,U,U,U,U,U,U,U,U,U] rfl rfl (any_of HT_.out (by kernel_rfl)) (fun _ _ _ h=>h) (Or.inl ⟨by rfl,?_⟩) ?_ ?_;rotate_left
            ·intro w'
             go_simp
             with_reducible rfl
            rotate_left
            ·simp only[Act.put,jq5,jq6,jq7,i64_w,i32_w]
             rfl
            refine pure_ (i:=1) (N:=some 54) (v:=?_) (a':=?_) #[Z,Z,U,U,U,U,U,U,U,U] rfl rfl (any_of HT_.out (by kernel_rfl)) (fun _ _ _ h=>h) (Or.inl ⟨by rfl,?_⟩) ?_ ?_;rotate_left
            ·intro w'
             go_simp
             with_reducible rfl
            rotate_left
            ·simp only[Act.put,jq5,jq6,jq7,i64_w,i32_w]
             rfl
            refine pure_ (i:=2) (N:=some 55) (v:=?_) (a':=?_) #[Z,Z,Z,U,U,U,U,U,U,U] rfl rfl (any_of HT_.out (by kernel_rfl)) (fun _ _ _ h=>h) (Or.inl ⟨by rfl,?_⟩) ?_ ?_;rotate_left
            ·intro w'
             go_simp
             with_reducible rfl
            rotate_left
            ·simp only[Act.put,jq5,jq6,jq7,i64_w,i32_w]
             rfl
            refine pure_ (i:=6) (N:=some 59) (v:=?_) (a':=?_) #[Z,Z,Z,U,U,U,Z,U,U,U] rfl rfl (any_of HT_.out (by kernel_rfl)) (fun _ _ _ h=>h) (Or.inl ⟨by rfl,?_⟩) ?_ ?_;rotate_left
            ·intro w'
             go_simp
             with_reducible rfl
            rotate_left
            ·simp only[Act.put,jq5,jq6,jq7,i64_w,i32_w]
             rfl
            refine pure_ (i:=7) (N:=some 60) (v:=?_) (a':=?_) #[Z,Z,Z,U,U,U,Z,Z,U,U] rfl rfl (any_of HT_.out (by kernel_rfl)) (fun _ _ _ h=>h) (Or.inl ⟨by rfl,?_⟩) ?_ ?_;rotate_left
            ·intro w'
             go_simp
             with_reducible rfl
            rotate_left
            ·simp only[Act.put,jq5,jq6,jq7,i64_w,i32_w]
             rfl
            refine one_ (i:=3) (N:=some 56) #[Z,Z,Z,Z,U,U,Z,Z,U,U] rfl rfl (one_of HT_.out (by kernel_rfl)) (by decide) (fun K hK=>?_);refine goes_ Tryz.func57 (by kernel_rfl) rfl #[.int .u64 (IntKind.u64.wrap (Int.tdiv (IntKind.u64.wrap (-(IntKind.u64.wrap (a0_1)))) 10000)),.int .i64 10] (by rfl) rfl rfl (by(try simp only[jq0,jq1,jq2]);first|done|rfl|(simp only[jq3,jq4];rfl)) ?_
            with_reducible refine(qxw.calls (IntKind.u64.wrap (Int.tdiv (IntKind.u64.wrap (-(IntKind.u64.wrap (a0_1)))) 10000)) 10 t108 _ ?tabw A37.out).mono ?_
            (case tabw=>repeat(first|exact HTAB.out|exact TabW_below HTAB.out HB.out|(with_reducible refine TabW_drewN ?_ _)|(with_reducible refine TabW_drew ?_)|(with_reducible refine TabW_alloc ?_ _)))
            rintro e w50 ⟨rfl,hb⟩
            refine⟨_,rfl,?_⟩;replace BK101:=O.mk (kz (by solve_by_elim only[BK101.out,qv,qw,qk]) hb);replace HB:=O.mk (zq (by solve_by_elim (maxDepth:=20) only[HB.out,J,L,I,qj,GE101.out]) hb)
            (try clear hb)
            (try clear hb2)
            (try clear hk)
            (try clear hi)
            refine hK.out _ _ trivial (fun hHeld=>?_);clear hK K;refine norm_ (a':=?_) ?_ ?_;rotate_left
            ·show Act.put _ (some 56) _=_
             simp only[Act.put,jq5,jq6,jq7,i64_w,i32_w]
             rfl
            refine pure_ (i:=4) (N:=some 57) (v:=?_) (a':=?_) #[Z,Z,Z,Z,Z,U,Z,Z,U,U] rfl rfl (any_of HT_.out (by kernel_rfl)) (fun _ _ _ h=>h) (Or.inl ⟨by rfl,?_⟩) ?_ ?_;rotate_left
            ·intro w'
             go_simp
             with_reducible rfl
            rotate_left
            ·simp only[Act.put,jq5,jq6,jq7,i64_w,i32_w]
             rfl
            refine pure_ (i:=5) (N:=some 58) (v:=?_) (a':=?_) #[Z,Z,Z,Z,Z,Z,Z,Z,U,U] rfl rfl (any_of HT_.out (by kernel_rfl)) (fun _ _ _ h=>h) (Or.inl ⟨by rfl,?_⟩) ?_ ?_;rotate_left
            ·intro w'
             go_simp
             with_reducible rfl
            rotate_left
            ·simp only[Act.put,jq5,jq6,jq7,i64_w,i32_w]
             rfl
            refine pure_ (i:=8) (N:=some 61) (v:=?_) (a':=?_) #[Z,Z,Z,Z,Z,Z,Z,Z,Z,U] rfl rfl (any_of HT_.out (by kernel_rfl)) (fun _ _ _ h=>h) (Or.inl ⟨by rfl,?_⟩) ?_ ?_;rotate_left
            ·intro w'
             go_simp
             with_reducible rfl
            rotate_left
            ·simp only[Act.put,jq5,jq6,jq7,i64_w,i32_w]
             rfl
            refine pure_ (i:=9) (N:=some 2) (v:=?_) (a':=?_) #[Z,Z,Z,Z,Z,Z,Z,Z,Z,Z] rfl rfl (any_of HT_.out (by kernel_rfl)) (fun _ _ _ h=>h) (Or.inl ⟨by rfl,?_⟩) ?_ ?_;rotate_left
            ·intro w'
             go_simp
             with_reducible rfl
            rotate_left
            ·simp only[Act.put,jq5,jq6,jq7,i64_w,i32_w]
             rfl
            refine done_ (done_of HT_.out (by kernel_rfl)) ?_;try go_wp2
            go_ret
            exact⟨by first|rfl|(simp[*,zx,zw] <;> rfl),by solve_by_elim (maxDepth:=20) only[HB.out,J,L,I,qj,GE101.out]⟩
           ·rw[if_neg c41] at H;exact absurd H (by simp)
          ·rw[if_neg c40] at H;exact absurd H (by simp)
         ·rw[if_neg c39] at H;exact absurd H (by simp)
        ·rw[if_neg c38] at H;exact absurd H (by simp)
       ·rw[if_neg c35] at H;have c35b0:decide (a0_1 < 0)=false:=decide_eq_false c35;clear c35;replace H:=jq8.mp H;obtain⟨t109,A510,H⟩:=H;try dsimp only at H
        have A51:=O.mk A510;clear A510;replace H:=jq8.mp H;obtain⟨t110,A520,H⟩:=H;try dsimp only at H
        have A52:=O.mk A520;clear A520
        by_cases c53 : 0 + t110.size≤9223372036854775807
        ·rw[if_pos c53] at H;have c53b0:=eq_true c53;have c53b1:decide (0 + t110.size≤9223372036854775807)=true:=decide_eq_true c53;try have c53b2:(9223372036854775807 < 0 + t110.size)=False:=eq_false (Nat.not_lt.2 c53)
         have c53b5:(9223372036854775807 < t110.size)=False:=eq_false (by
          have e_:=c53;simp only[ByteArray.size_append,ByteArray.size_extract,Nat.min_self,Nat.zero_add,show(⟨#[]⟩ : ByteArray).size=0 from rfl,show(⟨#[45]⟩ : ByteArray).size=1 from rfl,show(⟨#[46]⟩ : ByteArray).size=1 from rfl] at e_;exact Nat.not_lt.2 e_)
         by_cases c54:((⟨#[]⟩ : ByteArray) ++ t110).size + 1≤9223372036854775807
         ·rw[if_pos c54] at H;have c54b0:=eq_true c54;have c54b1:decide (((⟨#[]⟩ : ByteArray) ++ t110).size + 1≤9223372036854775807)=true:=decide_eq_true c54;try have c54b2:(9223372036854775807 < ((⟨#[]⟩ : ByteArray) ++ t110).size + 1)=False:=eq_false (Nat.not_lt.2 c54)
          have c54b5:(9223372036854775807 < t110.size + 1)=False:=eq_false (by
           have e_:=c54;simp only[ByteArray.size_append,ByteArray.size_extract,Nat.min_self,Nat.zero_add,show(⟨#[]⟩ : ByteArray).size=0 from rfl,show(⟨#[45]⟩ : ByteArray).size=1 from rfl,show(⟨#[46]⟩ : ByteArray).size=1 from rfl] at e_;exact Nat.not_lt.2 e_)
          try (have c54b9:=c54b2;simp only[ByteArray.size_append,show(⟨#[]⟩ : ByteArray).size=0 from rfl] at c54b9)
          by_cases c55 : 1≤(t109.size:Int)
          ·rw[if_pos c55] at H;have c55b0:=eq_true c55;have c55b1:decide (1≤(t109.size:Int))=true:=decide_eq_true c55;clear c55
           by_cases c56:(((⟨#[]⟩ : ByteArray) ++ t110) ++ (⟨#[46]⟩ : ByteArray)).size + (t109.extract 1 t109.size).size≤9223372036854775807
           ·rw[if_pos c56] at H;have c56b0:=eq_true c56;have c56b1:decide ((((⟨#[]⟩ : ByteArray) ++ t110) ++ (⟨#[46]⟩ : ByteArray)).size + (t109.extract 1 t109.size).size≤9223372036854775807)=true:=decide_eq_true c56;try have c56b2:(9223372036854775807 < (((⟨#[]⟩ : ByteArray) ++ t110) ++ (⟨#[46]⟩ : ByteArray)).size + (t109.extract 1 t109.size).size)=False:=eq_false (Nat.not_lt.2 c56)
            have c56b5:(9223372036854775807 < t110.size + 1 + (t109.size - 1))=False:=eq_false (by
             have e_:=c56;simp only[ByteArray.size_append,ByteArray.size_extract,Nat.min_self,Nat.zero_add,show(⟨#[]⟩ : ByteArray).size=0 from rfl,show(⟨#[45]⟩ : ByteArray).size=1 from rfl,show(⟨#[46]⟩ : ByteArray).size=1 from rfl] at e_;exact Nat.not_lt.2 e_)
            try (have c56b9:=c56b2;simp only[ByteArray.size_append,show(⟨#[]⟩ : ByteArray).size=0 from rfl,show(⟨#[46]⟩ : ByteArray).size=1 from rfl] at c56b9)
            obtain rfl:=Option.some.inj H;go_enter Tryz.func25,Tryz.ntmps25;try go_wp2_with (first|((with_reducible refine gate_dst (N:=1) rfl ?_);refine box_event ?hg (N:=1) ?hd (cs:=#[.int .i64 a0_0,.int .i64 a0_1,.string a0_2,.string a0_3]) (t:=28) ?hr ?_;(case hd=>rfl);(case hg=>rfl);(case hr=>first|(go_simp;done)|(go_simp;rfl));intro gb101 hg w57 hbox hb;have BK101:=O.mk (hbox);have GW101:=O.mk ((by rw[hg];exact(zz (by solve_by_elim only[HB.out,J,L,I])):w.heap.size≤gb101));have GE101:=GW101;replace HB:=O.mk (zq (by solve_by_elim only[HB.out,J,L,I]) hb);clear hb hbox hg;obtain⟨y58_0,y58_1,y58_2,y58_3,z58_0,z58_1,z58_2,z58_3⟩:=bx4f BK101.out)|((with_reducible refine jq (f:=52) rfl ?_);refine goesL_ (some 10) rfl rfl Tryz.func52 (by kernel_rfl) rfl #[.agg #[.int .i64 a0_0,.int .i64 a0_1,.string a0_2,.string a0_3]] rfl (by(try simp only[jq0,jq1,jq2]);first|done|rfl|(simp only[jq3,jq4];rfl)) ?_;(with_reducible refine(vx.calls k a0_0 a0_1 a0_2 a0_3 true _ A2.out).mono ?_);rintro e w59 ⟨rfl,hb⟩;refine⟨_,rfl,?_⟩;replace BK101:=O.mk (kz (by solve_by_elim only[BK101.out,qv,qw,qk]) hb);replace HB:=O.mk (zq (by solve_by_elim (maxDepth:=20) only[HB.out,J,L,I,qj,GE101.out]) hb);(try clear hb);obtain⟨y60_0,y60_1,y60_2,y60_3,z60_0,z60_1,z60_2,z60_3⟩:=bx4f BK101.out))
            replace BK101:=O.mk (qw BK101.out);replace HB:=O.mk (I HB.out);refine start_ (n:=5) (S:=fun w'=>w'.cell? ⟨gb101,0,none⟩ = some (.int .i64 a0_0)∧w'.cell? ⟨gb101,1,none⟩ = some (.int .i64 a0_1)∧w'.cell? ⟨gb101,2,none⟩ = some (.string a0_2)∧w'.cell? ⟨gb101,3,none⟩ = some (.string a0_3)) (ds:=[]) #[U,U,U,U,U] (by kernel_rfl) rfl rfl ⟨(qz BK101.out 0).trans rfl,(qz BK101.out 1).trans rfl,(qz BK101.out 2).trans rfl,(qz BK101.out 3).trans rfl⟩ (fun hHeld=>?_);generalize w59.drew=w61 at BK101 HB hHeld ⊢;refine pure_ (i:=0) (N:=some 41) (v:=?_) (a':=?_) #[Z,U,U,U,U] rfl rfl (by kernel_rfl) (fun _ _ _ h=>h) (Or.inl ⟨by rfl,?_⟩) ?_ ?_;rotate_left
            ·intro w'
             go_simp
             with_reducible rfl
            rotate_left
            ·simp only[Act.put,jq5,jq6,jq7,i64_w,i32_w]
             rfl
            refine pure_ (i:=3) (N:=some 3) (v:=?_) (a':=?_) #[Z,U,U,Z,U] rfl rfl (by kernel_rfl) (fun _ _ _ h=>h) (Or.inl ⟨by rfl,?_⟩) ?_ ?_;rotate_left
            ·intro w'
             go_simp
             with_reducible rfl
            rotate_left
            ·simp only[Act.put,jq5,jq6,jq7,i64_w,i32_w]
             rfl
            refine take_ (i:=1) (N:=some 42) (v:=?_) (a':=?_) #[Z,Z,U,Z,U] rfl rfl (by kernel_rfl) (fun _ _ _ h=>h) (Or.inl ⟨by rfl,?_⟩) hHeld ?_ ?_;rotate_left
            ·rintro w' ⟨s0,s1,s2,s3⟩
             go_simp
             with_reducible rfl
            rotate_left
            ·simp only[Act.put,jq5,jq6,jq7,i64_w,i32_w]
             rfl
            refine pure_ (i:=2) (N:=some 43) (v:=?_) (a':=?_) #[Z,Z,Z,Z,U] rfl rfl (by kernel_rfl) (fun _ _ _ h=>h) (Or.inl ⟨by rfl,?_⟩) ?_ ?_;rotate_left
            ·intro w'
             go_simp
             with_reducible rfl
            rotate_left
            ·simp only[Act.put,jq5,jq6,jq7,i64_w,i32_w]
             rfl
            refine pure_ (i:=4) (N:=some 4) (v:=?_) (a':=?_) #[Z,Z,Z,Z,Z] rfl rfl (by kernel_rfl) (fun _ _ _ h=>h) (Or.inl ⟨by rfl,?_⟩) ?_ ?_;rotate_left
            ·intro w'
             go_simp
             with_reducible rfl
            rotate_left
            ·simp only[Act.put,jq5,jq6,jq7,i64_w,i32_w]
             rfl
            refine done_ (by kernel_rfl) ?_;obtain⟨y62_0,y62_1,y62_2,y62_3,z62_0,z62_1,z62_2,z62_3⟩:=bx4f BK101.out;try go_wp2_with (first|((with_reducible refine jq (f:=57) rfl ?_);refine goesL_ (some 52) rfl rfl Tryz.func57 (by kernel_rfl) rfl #[.int .u64 (IntKind.u64.wrap ((Int.tmod (IntKind.u64.wrap (a0_1)) 10000) + 10000)),.int .i64 10] rfl (by(try simp only[jq0,jq1,jq2]);first|done|rfl|(simp only[jq3,jq4];rfl)) ?_;(with_reducible refine(qxw.calls (IntKind.u64.wrap ((Int.tmod (IntKind.u64.wrap (a0_1)) 10000) + 10000)) 10 t109 _ ?tabw A51.out).mono ?_);(case tabw=>repeat(first|exact HTAB.out|exact TabW_below HTAB.out HB.out|exact TabW_below HTAB.out (by repeat(first|exact HB.out|apply J|apply L|apply I|refine qj ?_ GE101.out))|(with_reducible refine TabW_drewN ?_ _)|(with_reducible refine TabW_drew ?_)|(with_reducible refine TabW_alloc ?_ _)));rintro e w63 ⟨rfl,hb⟩;refine⟨_,rfl,?_⟩;replace BK101:=O.mk (kz (by solve_by_elim only[BK101.out,qv,qw,qk]) hb);replace HB:=O.mk (zq (by solve_by_elim (maxDepth:=20) only[HB.out,J,L,I,qj,GE101.out]) hb);(try clear hb)))
            replace BK101:=O.mk (qw BK101.out);replace HB:=O.mk (I HB.out);refine start_ (n:=10) (S:=fun w'=>True) (ds:=[]) #[U,U,U,U,U,U,U,U,U,U] (by kernel_rfl) rfl rfl trivial (fun hHeld=>?_);refine with_tabW vz.tab17 vz.bits17 (fun HT_ HW_=>?_)
            generalize w63.drew=w64 at BK101 HB hHeld ⊢;refine pure_ (i:=0) (N:=some 53) (v:=?_) (a':=?_) #[Z,U,U,U,U,U,U,U,U,U] rfl rfl (any_of HT_.out (by kernel_rfl)) (fun _ _ _ h=>h) (Or.inl ⟨by rfl,?_⟩) ?_ ?_;rotate_left
            ·intro w'
             go_simp
             with_reducible rfl
            rotate_left
            ·simp only[Act.put,jq5,jq6,jq7,i64_w,i32_w]
             rfl
            refine pure_ (i:=1) (N:=some 54) (v:=?_) (a':=?_) #[Z,Z,U,U,U,U,U,U,U,U] rfl rfl (any_of HT_.out (by kernel_rfl)) (fun _ _ _ h=>h) (Or.inl ⟨by rfl,?_⟩) ?_ ?_;rotate_left
            ·intro w'
             go_simp
             with_reducible rfl
            rotate_left
            ·simp only[Act.put,jq5,jq6,jq7,i64_w,i32_w]
             rfl
            refine pure_ (i:=2) (N:=some 55) (v:=?_) (a':=?_) #[Z,Z,Z,U,U,U,U,U,U,U] rfl rfl (any_of HT_.out (by kernel_rfl)) (fun _ _ _ h=>h) (Or.inl ⟨by rfl,?_⟩) ?_ ?_;rotate_left
            ·intro w'
             go_simp
             with_reducible rfl
            rotate_left
            ·simp only[Act.put,jq5,jq6,jq7,i64_w,i32_w]
             rfl
            refine pure_ (i:=6) (N:=some 59) (v:=?_) (a':=?_) #[Z,Z,Z,U,U,U,Z,U,U,U] rfl rfl (any_of HT_.out (by kernel_rfl)) (fun _ _ _ h=>h) (Or.inl ⟨by rfl,?_⟩) ?_ ?_;rotate_left
            ·intro w'
             go_simp
             with_reducible rfl
            rotate_left
            ·simp only[Act.put,jq5,jq6,jq7,i64_w,i32_w]
             rfl
            refine pure_ (i:=7) (N:=some 60) (v:=?_) (a':=?_) #[Z,Z,Z,U,U,U,Z,Z,U,U] rfl rfl (any_of HT_.out (by kernel_rfl)) (fun _ _ _ h=>h) (Or.inl ⟨by rfl,?_⟩) ?_ ?_;rotate_left
            ·intro w'
             go_simp
             with_reducible rfl
            rotate_left
            ·simp only[Act.put,jq5,jq6,jq7,i64_w,i32_w]
             rfl
            refine one_ (i:=3) (N:=some 56) #[Z,Z,Z,Z,U,U,Z,Z,U,U] rfl rfl (one_of HT_.out (by kernel_rfl)) (by decide) (fun K hK=>?_);refine goes_ Tryz.func57 (by kernel_rfl) rfl #[.int .u64 (IntKind.u64.wrap (Int.tdiv (IntKind.u64.wrap (a0_1)) 10000)),.int .i64 10] (by rfl) rfl rfl (by(try simp only[jq0,jq1,jq2]);first|done|rfl|(simp only[jq3,jq4];rfl)) ?_
            with_reducible refine(qxw.calls (IntKind.u64.wrap (Int.tdiv (IntKind.u64.wrap (a0_1)) 10000)) 10 t110 _ ?tabw A52.out).mono ?_
            (case tabw=>repeat(first|exact HTAB.out|exact TabW_below HTAB.out HB.out|(with_reducible refine TabW_drewN ?_ _)|(with_reducible refine TabW_drew ?_)|(with_reducible refine TabW_alloc ?_ _)))
            rintro e w65 ⟨rfl,hb⟩
            refine⟨_,rfl,?_⟩;replace BK101:=O.mk (kz (by solve_by_elim only[BK101.out,qv,qw,qk]) hb);replace HB:=O.mk (zq (by solve_by_elim (maxDepth:=20) only[HB.out,J,L,I,qj,GE101.out]) hb)
            (try clear hb)
            (try clear hb2)
            (try clear hk)
            (try clear hi)
            refine hK.out _ _ trivial (fun hHeld=>?_);clear hK K;refine norm_ (a':=?_) ?_ ?_;rotate_left
            ·show Act.put _ (some 56) _=_
             simp only[Act.put,jq5,jq6,jq7,i64_w,i32_w]
             rfl
            refine pure_ (i:=4) (N:=some 57) (v:=?_) (a':=?_) #[Z,Z,Z,Z,Z,U,Z,Z,U,U] rfl rfl (any_of HT_.out (by kernel_rfl)) (fun _ _ _ h=>h) (Or.inl ⟨by rfl,?_⟩) ?_ ?_;rotate_left
            ·intro w'
             go_simp
             with_reducible rfl
            rotate_left
            ·simp only[Act.put,jq5,jq6,jq7,i64_w,i32_w]
             rfl
            refine pure_ (i:=5) (N:=some 58) (v:=?_) (a':=?_) #[Z,Z,Z,Z,Z,Z,Z,Z,U,U] rfl rfl (any_of HT_.out (by kernel_rfl)) (fun _ _ _ h=>h) (Or.inl ⟨by rfl,?_⟩) ?_ ?_;rotate_left
            ·intro w'
             go_simp
             with_reducible rfl
            rotate_left
            ·simp only[Act.put,jq5,jq6,jq7,i64_w,i32_w]
             rfl
            refine pure_ (i:=8) (N:=some 61) (v:=?_) (a':=?_) #[Z,Z,Z,Z,Z,Z,Z,Z,Z,U] rfl rfl (any_of HT_.out (by kernel_rfl)) (fun _ _ _ h=>h) (Or.inl ⟨by rfl,?_⟩) ?_ ?_;rotate_left
            ·intro w'
             go_simp
             with_reducible rfl
            rotate_left
            ·simp only[Act.put,jq5,jq6,jq7,i64_w,i32_w]
             rfl
            refine pure_ (i:=9) (N:=some 2) (v:=?_) (a':=?_) #[Z,Z,Z,Z,Z,Z,Z,Z,Z,Z] rfl rfl (any_of HT_.out (by kernel_rfl)) (fun _ _ _ h=>h) (Or.inl ⟨by rfl,?_⟩) ?_ ?_;rotate_left
            ·intro w'
             go_simp
             with_reducible rfl
            rotate_left
            ·simp only[Act.put,jq5,jq6,jq7,i64_w,i32_w]
             rfl
            refine done_ (done_of HT_.out (by kernel_rfl)) ?_;try go_wp2
            go_ret
            exact⟨by first|rfl|(simp[*,zx,zw] <;> rfl),by solve_by_elim (maxDepth:=20) only[HB.out,J,L,I,qj,GE101.out]⟩
           ·rw[if_neg c56] at H;exact absurd H (by simp)
          ·rw[if_neg c55] at H;exact absurd H (by simp)
         ·rw[if_neg c54] at H;exact absurd H (by simp)
        ·rw[if_neg c53] at H;exact absurd H (by simp)
      ·rw[if_neg c34] at H;have c34b0:(a0_0 == 5)=false:=beq_eq_false_iff_ne.mpr c34;have c34b1:(a0_0 != 5)=true:=bne_iff_ne.mpr c34
       by_cases c66:a0_0=6
       ·rw[if_pos c66] at H;have c66b0:(a0_0 == 6)=true:=beq_iff_eq.mpr c66;have c66b1:(a0_0 != 6)=false:=bne_eq_false_iff_eq.mpr c66;clear c66;have H':=O.mk H;clear H;go_enter Tryz.func25,Tryz.ntmps25;go_wp2_with (first|((with_reducible refine gate_dst (N:=1) rfl ?_);refine box_event ?hg (N:=1) ?hd (cs:=#[.int .i64 a0_0,.int .i64 a0_1,.string a0_2,.string a0_3]) (t:=28) ?hr ?_;(case hd=>rfl);(case hg=>rfl);(case hr=>first|(go_simp;done)|(go_simp;rfl));intro gb101 hg w67 hbox hb;have BK101:=O.mk (hbox);have GW101:=O.mk ((by rw[hg];exact(zz (by solve_by_elim only[HB.out,J,L,I])):w.heap.size≤gb101));have GE101:=GW101;replace HB:=O.mk (zq (by solve_by_elim only[HB.out,J,L,I]) hb);clear hb hbox hg;obtain⟨y68_0,y68_1,y68_2,y68_3,z68_0,z68_1,z68_2,z68_3⟩:=bx4f BK101.out)|((with_reducible refine jq (f:=52) rfl ?_);refine goesL_ (some 10) rfl rfl Tryz.func52 (by kernel_rfl) rfl #[.agg #[.int .i64 a0_0,.int .i64 a0_1,.string a0_2,.string a0_3]] rfl (by(try simp only[jq0,jq1,jq2]);first|done|rfl|(simp only[jq3,jq4];rfl)) ?_;(with_reducible refine(vx.calls k a0_0 a0_1 a0_2 a0_3 true _ A2.out).mono ?_);rintro e w69 ⟨rfl,hb⟩;refine⟨_,rfl,?_⟩;replace BK101:=O.mk (kz (by solve_by_elim only[BK101.out,qv,qw,qk]) hb);replace HB:=O.mk (zq (by solve_by_elim (maxDepth:=20) only[HB.out,J,L,I,qj,GE101.out]) hb);(try clear hb);obtain⟨y70_0,y70_1,y70_2,y70_3,z70_0,z70_1,z70_2,z70_3⟩:=bx4f BK101.out))
        go_loopg [7,8] k (fun kq v7 v8 w'=>∃ (x7_1:ByteArray) (x8_1:Int),v7=.string x7_1∧v8=.int .i64 x8_1∧O (vz.l0 kq (wrap64 (Int.tdiv a0_1 64)) x7_1 x8_1 a0_0 a0_1 a0_2 a0_3=some r)∧O (kq≤k)∧O (w'.heap[gb101]? = some (.cells #[.int .i64 a0_0,.int .i64 a0_1,.string a0_2,.string a0_3] 28 (0,0)))∧O (Below w.heap.size w w'))
        case atStart=>exact⟨((⟨#[]⟩ : ByteArray)),(24),(by first|rfl|(simp;done)|(simp[*];done)),(by first|rfl|(simp;done)|(simp[*];done)),H',⟨Nat.le_refl _⟩,⟨by(with_reducible repeat(first|refine qv ?_ _|refine qw ?_|refine qk ?_ _));exact BK101.out⟩,⟨by solve_by_elim (maxDepth:=20) only[HB.out,J,L,I,qj,GE101.out]⟩⟩
        case round =>
         clear H';try clear c1
         try clear c2
         try clear p2
         try clear c3
         try clear c4
         try clear c5
         try clear c6
         try clear p6
         try clear c10
         try clear c10b0
         try clear c10b1
         try clear c17
         try clear c17b0
         try clear c17b1
         try clear c24
         try clear c24b0
         try clear c24b1
         try clear c25
         try clear c25b0
         try clear c25b1
         try clear c25b2
         try clear c27
         try clear c27b0
         try clear c27b1
         try clear c27b2
         try clear c34
         try clear c34b0
         try clear c34b1
         try clear c35
         try clear c35b0
         try clear c38
         try clear c38b0
         try clear c38b1
         try clear c38b2
         try clear c39
         try clear c39b0
         try clear c39b1
         try clear c39b2
         try clear c40
         try clear c40b0
         try clear c40b1
         try clear c41
         try clear c41b0
         try clear c41b1
         try clear c41b2
         try clear c52
         try clear c53
         try clear c53b0
         try clear c53b1
         try clear c53b2
         try clear c54
         try clear c54b0
         try clear c54b1
         try clear c54b2
         try clear c55
         try clear c55b0
         try clear c55b1
         try clear c56
         try clear c56b0
         try clear c56b1
         try clear c56b2
         try clear c57
         try clear p64
         try clear c66
         try clear c66b0
         try clear c66b1
         try clear y13_0 y13_1 y13_2 y13_3 z13_0 z13_1 z13_2 z13_3
         try clear y15_0 y15_1 y15_2 y15_3 z15_0 z15_1 z15_2 z15_3
         try clear y20_0 y20_1 y20_2 y20_3 z20_0 z20_1 z20_2 z20_3
         try clear y22_0 y22_1 y22_2 y22_3 z22_0 z22_1 z22_2 z22_3
         try clear y29_0 y29_1 y29_2 y29_3 z29_0 z29_1 z29_2 z29_3
         try clear y31_0 y31_1 y31_2 y31_3 z31_0 z31_1 z31_2 z31_3
         try clear y43_0 y43_1 y43_2 y43_3 z43_0 z43_1 z43_2 z43_3
         try clear y45_0 y45_1 y45_2 y45_3 z45_0 z45_1 z45_2 z45_3
         try clear y47_0 y47_1 y47_2 y47_3 z47_0 z47_1 z47_2 z47_3
         try clear y58_0 y58_1 y58_2 y58_3 z58_0 z58_1 z58_2 z58_3
         try clear y60_0 y60_1 y60_2 y60_3 z60_0 z60_1 z60_2 z60_3
         try clear y62_0 y62_1 y62_2 y62_3 z62_0 z62_1 z62_2 z62_3
         try clear y68_0 y68_1 y68_2 y68_3 z68_0 z68_1 z68_2 z68_3
         try clear y70_0 y70_1 y70_2 y70_3 z70_0 z70_1 z70_2 z70_3
         obtain⟨x7_1,x8_1,rfl,rfl,HA,HK1,BK101,HB⟩:=hrel
         cases gk with
         | zero=>exact absurd HA.out (by simp[vz.l0])
         | succ k1 =>
          have H:=HA.out;clear HA;simp only[vz.l0] at H
          by_cases c71:x8_1 ≥ 0
          ·rw[if_pos c71] at H;have c71b0:decide (0≤x8_1)=true:=decide_eq_true c71;clear c71
           by_cases c72 : 0≤x8_1
           ·rw[if_pos c72] at H;have c72b0:=eq_true c72;have c72b1:decide (0≤x8_1)=true:=decide_eq_true c72;clear c72;obtain⟨ji73,hji73⟩ : ∃ j_:Int,(shr .i64 (wrap64 (Int.tdiv a0_1 64)) x8_1)=j_:=⟨_,rfl⟩;replace H:((strconv_Itoa.f (Go.bits .and .i64 (ji73) 255)).bind fun t111=>(if t111.size + 1≤9223372036854775807 then(if x7_1.size + (t111 ++ (⟨#[46]⟩ : ByteArray)).size≤9223372036854775807 then(vz.l0 k1 (wrap64 (Int.tdiv a0_1 64)) (x7_1 ++ (t111 ++ (⟨#[46]⟩ : ByteArray))) (wrap64 (x8_1 - 8)) a0_0 a0_1 a0_2 a0_3) else(none)) else(none)))=some r:=by first|(rw[hji73] at H;exact H)|(simp only[hji73] at H ⊢;exact H)
            have hji73_:((wrap64 (Int.tdiv a0_1 64)) / 2 ^ min x8_1.toNat 64)=ji73:=hji73;have hji73z:x8_1≤64→((wrap64 (Int.tdiv a0_1 64)) / 2 ^ x8_1.toNat)=ji73:=shr_small hji73;replace H:=jq8.mp H;obtain⟨t111,A740,H⟩:=H;try dsimp only at H
            have A74:=O.mk A740;clear A740
            by_cases c75:t111.size + 1≤9223372036854775807
            ·rw[if_pos c75] at H;have c75b0:=eq_true c75;have c75b1:decide (t111.size + 1≤9223372036854775807)=true:=decide_eq_true c75;try have c75b2:(9223372036854775807 < t111.size + 1)=False:=eq_false (Nat.not_lt.2 c75)
             by_cases c76:x7_1.size + (t111 ++ (⟨#[46]⟩ : ByteArray)).size≤9223372036854775807
             ·rw[if_pos c76] at H;have c76b0:=eq_true c76;have c76b1:decide (x7_1.size + (t111 ++ (⟨#[46]⟩ : ByteArray)).size≤9223372036854775807)=true:=decide_eq_true c76;try have c76b2:(9223372036854775807 < x7_1.size + (t111 ++ (⟨#[46]⟩ : ByteArray)).size)=False:=eq_false (Nat.not_lt.2 c76)
              try (have c76b9:=c76b2;simp only[ByteArray.size_append,show(⟨#[46]⟩ : ByteArray).size=1 from rfl] at c76b9)
              have H':=O.mk H;clear H;go_wp2_with (first|((with_reducible refine jq (f:=55) rfl ?_);refine goesL_ (some 76) rfl rfl Tryz.func55 (by kernel_rfl) rfl #[.int .i64 (Go.bits .and .i64 (ji73) 255)] rfl (by(try simp only[jq0,jq1,jq2]);first|done|(simp only[hji73];rfl)|rfl|(simp only[jq3,jq4];rfl)) ?_;(with_reducible refine(strconv_Itoa.calls (Go.bits .and .i64 (ji73) 255) t111 _ ?tabw A74.out).mono ?_);(case tabw=>repeat(first|exact HTAB.out|exact TabW_below HTAB.out HB.out|exact TabW_below HTAB.out (by repeat(first|exact HB.out|apply J|apply L|apply I|refine qj ?_ GE101.out))|(with_reducible refine TabW_drewN ?_ _)|(with_reducible refine TabW_drew ?_)|(with_reducible refine TabW_alloc ?_ _)));rintro e w77 ⟨rfl,hb⟩;refine⟨_,rfl,?_⟩;replace BK101:=O.mk (kz (by solve_by_elim only[BK101.out,qv,qw,qk]) hb);replace HB:=O.mk (zq (by solve_by_elim (maxDepth:=20) only[HB.out,J,L,I,qj,GE101.out]) hb);(try clear hb)))
              go_roundg k1
              case measure=>have:=HK1.out;omega
              case rel=>exact⟨(x7_1 ++ (t111 ++ (⟨#[46]⟩ : ByteArray))),(wrap64 (x8_1 - 8)),(by first|rfl|(simp;done)|(simp[*];done)),(by first|rfl|(simp;done)|(simp[*];done)),H',⟨by have:=HK1.out;omega⟩,⟨by(with_reducible repeat(first|refine qv ?_ _|refine qw ?_|refine qk ?_ _));exact BK101.out⟩,⟨by solve_by_elim (maxDepth:=20) only[HB.out,J,L,I,qj,GE101.out]⟩⟩
             ·rw[if_neg c76] at H;exact absurd H (by simp)
            ·rw[if_neg c75] at H;exact absurd H (by simp)
           ·rw[if_neg c72] at H;exact absurd H (by simp)
          ·rw[if_neg c71] at H;have c71b0:decide (0≤x8_1)=false:=decide_eq_false c71;clear c71;obtain⟨ji78,hji78⟩ : ∃ j_:Int,(wrap64 ((x7_1.size:Int) - 1))=j_:=⟨_,rfl⟩;replace H:(if 0≤(ji78) then(if (ji78)≤(x7_1.size:Int) then(if (x7_1.extract 0 ((ji78):Int).toNat).size + 1≤9223372036854775807 then((strconv_Itoa.f (Int.tmod a0_1 64)).bind fun t112=>(if ((x7_1.extract 0 ((ji78):Int).toNat) ++ (⟨#[47]⟩ : ByteArray)).size + t112.size≤9223372036854775807 then(some (((x7_1.extract 0 ((ji78):Int).toNat) ++ (⟨#[47]⟩ : ByteArray)) ++ t112)) else(none))) else(none)) else(none)) else(none))=some r:=by first|(rw[hji78] at H;exact H)|(simp only[hji78] at H ⊢;exact H)
           have hji78w:(IntKind.i64.wrap ((x7_1.size:Int) - 1))=ji78:=(i64_w _).trans hji78
           by_cases c79 : 0≤(ji78)
           ·rw[if_pos c79] at H;have c79b0:=eq_true c79;have c79b1:decide (0≤(ji78))=true:=decide_eq_true c79;clear c79
            by_cases c80:(ji78)≤(x7_1.size:Int)
            ·rw[if_pos c80] at H;have c80b0:=eq_true c80;have c80b1:decide ((ji78)≤(x7_1.size:Int))=true:=decide_eq_true c80;clear c80
             by_cases c81:(x7_1.extract 0 ((ji78):Int).toNat).size + 1≤9223372036854775807
             ·rw[if_pos c81] at H;have c81b0:=eq_true c81;have c81b1:decide ((x7_1.extract 0 ((ji78):Int).toNat).size + 1≤9223372036854775807)=true:=decide_eq_true c81;try have c81b2:(9223372036854775807 < (x7_1.extract 0 ((ji78):Int).toNat).size + 1)=False:=eq_false (Nat.not_lt.2 c81)
              have c81b5:(9223372036854775807 < ji78.toNat + 1)=False:=eq_false (by
               have e_:=c81
               have e1_:(ji78:Int).toNat≤x7_1.size:=by
                have e2_:=of_eq_true c80b0;clear hji78 hji78w
                omega
               simp only[ByteArray.size_append,ByteArray.size_extract,Nat.min_eq_left e1_,Nat.sub_zero,Nat.min_self,show(⟨#[46]⟩ : ByteArray).size=1 from rfl,show(⟨#[47]⟩ : ByteArray).size=1 from rfl] at e_;exact Nat.not_lt.2 e_)
              replace H:=jq8.mp H;obtain⟨t112,A820,H⟩:=H;try dsimp only at H
              have A82:=O.mk A820;clear A820
              by_cases c83:((x7_1.extract 0 ((ji78):Int).toNat) ++ (⟨#[47]⟩ : ByteArray)).size + t112.size≤9223372036854775807
              ·rw[if_pos c83] at H;have c83b0:=eq_true c83;have c83b1:decide (((x7_1.extract 0 ((ji78):Int).toNat) ++ (⟨#[47]⟩ : ByteArray)).size + t112.size≤9223372036854775807)=true:=decide_eq_true c83;try have c83b2:(9223372036854775807 < ((x7_1.extract 0 ((ji78):Int).toNat) ++ (⟨#[47]⟩ : ByteArray)).size + t112.size)=False:=eq_false (Nat.not_lt.2 c83)
               have c83b5:(9223372036854775807 < ji78.toNat + 1 + t112.size)=False:=eq_false (by
                have e_:=c83
                have e1_:(ji78:Int).toNat≤x7_1.size:=by
                 have e2_:=of_eq_true c80b0;clear hji78 hji78w
                 omega
                simp only[ByteArray.size_append,ByteArray.size_extract,Nat.min_eq_left e1_,Nat.sub_zero,Nat.min_self,show(⟨#[46]⟩ : ByteArray).size=1 from rfl,show(⟨#[47]⟩ : ByteArray).size=1 from rfl] at e_;exact Nat.not_lt.2 e_)
               try (have c83b9:=c83b2;simp only[ByteArray.size_append,show(⟨#[47]⟩ : ByteArray).size=1 from rfl] at c83b9)
               obtain rfl:=Option.some.inj H;try go_wp2
               replace BK101:=O.mk (qw BK101.out);replace HB:=O.mk (I HB.out);refine start_ (n:=12) (S:=fun w'=>w'.cell? ⟨gb101,0,none⟩ = some (.int .i64 a0_0)∧w'.cell? ⟨gb101,1,none⟩ = some (.int .i64 a0_1)∧w'.cell? ⟨gb101,2,none⟩ = some (.string a0_2)∧w'.cell? ⟨gb101,3,none⟩ = some (.string a0_3)) (ds:=[]) #[U,U,U,U,U,U,U,U,U,U,U,U] (by kernel_rfl) rfl rfl ⟨(qz BK101.out 0).trans rfl,(qz BK101.out 1).trans rfl,(qz BK101.out 2).trans rfl,(qz BK101.out 3).trans rfl⟩ (fun hHeld=>?_);refine with_tabW vz.tab25 vz.bits25 (fun HT_ HW_=>?_)
               generalize wr.drew=w84 at BK101 HB hHeld ⊢;refine pure_ (i:=0) (N:=some 79) (v:=?_) (a':=?_) #[Z,U,U,U,U,U,U,U,U,U,U,U] rfl rfl (any_of HT_.out (by kernel_rfl)) (fun _ _ _ h=>h) (Or.inl ⟨by rfl,?_⟩) ?_ ?_;rotate_left
               ·intro w'
                go_simp
                with_reducible rfl
               rotate_left
               ·simp only[Act.put,jq5,jq6,jq7,i64_w,i32_w]
                rfl
               refine pure_ (i:=1) (N:=some 80) (v:=?_) (a':=?_) #[Z,Z,U,U,U,U,U,U,U,U,U,U] rfl rfl (any_of HT_.out (by kernel_rfl)) (fun _ _ _ h=>h) (Or.inl ⟨by rfl,?_⟩) ?_ ?_;rotate_left
               ·intro w'
                go_simp
                with_reducible rfl
               rotate_left
               ·simp only[Act.put,jq5,jq6,jq7,i64_w,i32_w]
                rfl
               refine pure_ (i:=2) (N:=some 81) (v:=?_) (a':=?_) #[Z,Z,Z,U,U,U,U,U,U,U,U,U] rfl rfl (any_of HT_.out (by kernel_rfl)) (fun _ _ _ h=>h) (Or.inl ⟨by rfl,?_⟩) ?_ ?_;rotate_left
               ·intro w'
                go_simp
                with_reducible rfl
               rotate_left
               ·simp only[Act.put,jq5,jq6,jq7,i64_w,i32_w]
                rfl
               refine pure_ (i:=3) (N:=some 82) (v:=?_) (a':=?_) #[Z,Z,Z,Z,U,U,U,U,U,U,U,U] rfl rfl (any_of HT_.out (by kernel_rfl)) (fun _ _ _ h=>h) (Or.inl ⟨by rfl,?_⟩) ?_ ?_;rotate_left
               ·intro w'
                go_simp
                with_reducible rfl
               rotate_left
               ·simp only[Act.put,jq5,jq6,jq7,i64_w,i32_w]
                rfl
               refine pure_ (i:=4) (N:=some 83) (v:=?_) (a':=?_) #[Z,Z,Z,Z,Z,U,U,U,U,U,U,U] rfl rfl (any_of HT_.out (by kernel_rfl)) (fun _ _ _ h=>h) (Or.inl ⟨by rfl,?_⟩) ?_ ?_;rotate_left
               ·intro w'
                go_simp
                with_reducible rfl
               rotate_left
               ·simp only[Act.put,jq5,jq6,jq7,i64_w,i32_w]
                rfl
               refine pure_ (i:=5) (N:=some 84) (v:=?_) (a':=?_) #[Z,Z,Z,Z,Z,Z,U,U,U,U,U,U] rfl rfl (any_of HT_.out (by kernel_rfl)) (fun _ _ _ h=>h) (Or.inl ⟨by rfl,?_⟩) ?_ ?_;rotate_left
               ·intro w'
                go_simp
                with_reducible rfl
               rotate_left
               ·simp only[Act.put,jq5,jq6,jq7,i64_w,i32_w]
                rfl
               refine pure_ (i:=6) (N:=some 85) (v:=?_) (a':=?_) #[Z,Z,Z,Z,Z,Z,Z,U,U,U,U,U] rfl rfl (any_of HT_.out (by kernel_rfl)) (fun _ _ _ h=>h) (Or.inl ⟨by rfl,?_⟩) ?_ ?_;rotate_left
               ·intro w'
                go_simp
                with_reducible rfl
               rotate_left
               ·simp only[Act.put,jq5,jq6,jq7,i64_w,i32_w]
                rfl
               refine take_ (i:=7) (N:=some 86) (v:=?_) (a':=?_) #[Z,Z,Z,Z,Z,Z,Z,Z,U,U,U,U] rfl rfl (take_ofW HT_.out HW_.out (by kernel_rfl)) (fun _ _ _ h=>h) (Or.inl ⟨by rfl,?_⟩) hHeld ?_ ?_;rotate_left
               ·rintro w' ⟨s0,s1,s2,s3⟩
                go_simp
                with_reducible rfl
               rotate_left
               ·simp only[Act.put,jq5,jq6,jq7,i64_w,i32_w]
                rfl
               refine pure_ (i:=8) (N:=some 87) (v:=?_) (a':=?_) #[Z,Z,Z,Z,Z,Z,Z,Z,Z,U,U,U] rfl rfl (any_of HT_.out (by kernel_rfl)) (fun _ _ _ h=>h) (Or.inl ⟨by rfl,?_⟩) ?_ ?_;rotate_left
               ·intro w'
                go_simp
                with_reducible rfl
               rotate_left
               ·simp only[Act.put,jq5,jq6,jq7,i64_w,i32_w]
                rfl
               refine one_ (i:=9) (N:=some 88) #[Z,Z,Z,Z,Z,Z,Z,Z,Z,Z,U,U] rfl rfl (one_of HT_.out (by kernel_rfl)) (by decide) (fun K hK=>?_);refine goes_ Tryz.func55 (by kernel_rfl) rfl #[.int .i64 (Int.tmod a0_1 64)] (by rfl) rfl rfl (by(try simp only[jq0,jq1,jq2]);first|done|rfl|(simp only[jq3,jq4];rfl)) ?_
               with_reducible refine(strconv_Itoa.calls (Int.tmod a0_1 64) t112 _ ?tabw A82.out).mono ?_
               (case tabw=>repeat(first|exact HTAB.out|exact TabW_below HTAB.out HB.out|(with_reducible refine TabW_drewN ?_ _)|(with_reducible refine TabW_drew ?_)|(with_reducible refine TabW_alloc ?_ _)))
               rintro e w85 ⟨rfl,hb⟩
               refine⟨_,rfl,?_⟩;replace BK101:=O.mk (kz (by solve_by_elim only[BK101.out,qv,qw,qk]) hb);replace HB:=O.mk (zq (by solve_by_elim (maxDepth:=20) only[HB.out,J,L,I,qj,GE101.out]) hb)
               (try clear hb)
               (try clear hb2)
               (try clear hk)
               (try clear hi)
               refine hK.out _ _ (by(repeat' apply And.intro) <;> first|exact(qz BK101.out _).trans rfl) (fun hHeld=>?_);clear hK K;refine norm_ (a':=?_) ?_ ?_;rotate_left
               ·show Act.put _ (some 88) _=_
                simp only[Act.put,jq5,jq6,jq7,i64_w,i32_w]
                rfl
               refine pure_ (i:=10) (N:=some 89) (v:=?_) (a':=?_) #[Z,Z,Z,Z,Z,Z,Z,Z,Z,Z,Z,U] rfl rfl (any_of HT_.out (by kernel_rfl)) (fun _ _ _ h=>h) (Or.inl ⟨by rfl,?_⟩) ?_ ?_;rotate_left
               ·intro w'
                go_simp
                with_reducible rfl
               rotate_left
               ·simp only[Act.put,jq5,jq6,jq7,i64_w,i32_w]
                rfl
               refine pure_ (i:=11) (N:=some 2) (v:=?_) (a':=?_) #[Z,Z,Z,Z,Z,Z,Z,Z,Z,Z,Z,Z] rfl rfl (any_of HT_.out (by kernel_rfl)) (fun _ _ _ h=>h) (Or.inl ⟨by rfl,?_⟩) ?_ ?_;rotate_left
               ·intro w'
                go_simp
                with_reducible rfl
               rotate_left
               ·simp only[Act.put,jq5,jq6,jq7,i64_w,i32_w]
                rfl
               refine done_ (done_of HT_.out (by kernel_rfl)) ?_;try go_wp2
               go_ret
               exact⟨by first|rfl|(simp[zx,zw] <;> rfl)|(simp only[← hji78];first|rfl|(simp[zx,zw] <;> rfl))|(simp[*,zx,zw] <;> rfl),by solve_by_elim (maxDepth:=20) only[HB.out,J,L,I,qj,GE101.out]⟩
              ·rw[if_neg c83] at H;exact absurd H (by simp)
             ·rw[if_neg c81] at H;exact absurd H (by simp)
            ·rw[if_neg c80] at H;exact absurd H (by simp)
           ·rw[if_neg c79] at H;exact absurd H (by simp)
       ·rw[if_neg c66] at H;have c66b0:(a0_0 == 6)=false:=beq_eq_false_iff_ne.mpr c66;have c66b1:(a0_0 != 6)=true:=bne_iff_ne.mpr c66;replace H:=jq8.mp H;obtain⟨t113,A860,H⟩:=H;try dsimp only at H
        have A86:=O.mk A860;clear A860
        by_cases c87 : 1 + t113.size≤9223372036854775807
        ·rw[if_pos c87] at H;have c87b0:=eq_true c87;have c87b1:decide (1 + t113.size≤9223372036854775807)=true:=decide_eq_true c87;try have c87b2:(9223372036854775807 < 1 + t113.size)=False:=eq_false (Nat.not_lt.2 c87)
         obtain rfl:=Option.some.inj H;go_enter Tryz.func25,Tryz.ntmps25;go_wp2_with (first|((with_reducible refine gate_dst (N:=1) rfl ?_);refine box_event ?hg (N:=1) ?hd (cs:=#[.int .i64 a0_0,.int .i64 a0_1,.string a0_2,.string a0_3]) (t:=28) ?hr ?_;(case hd=>rfl);(case hg=>rfl);(case hr=>first|(go_simp;done)|(go_simp;rfl));intro gb101 hg w88 hbox hb;have BK101:=O.mk (hbox);have GW101:=O.mk ((by rw[hg];exact(zz (by solve_by_elim only[HB.out,J,L,I])):w.heap.size≤gb101));have GE101:=GW101;replace HB:=O.mk (zq (by solve_by_elim only[HB.out,J,L,I]) hb);clear hb hbox hg;obtain⟨y89_0,y89_1,y89_2,y89_3,z89_0,z89_1,z89_2,z89_3⟩:=bx4f BK101.out)|((with_reducible refine jq (f:=52) rfl ?_);refine goesL_ (some 10) rfl rfl Tryz.func52 (by kernel_rfl) rfl #[.agg #[.int .i64 a0_0,.int .i64 a0_1,.string a0_2,.string a0_3]] rfl (by(try simp only[jq0,jq1,jq2]);first|done|rfl|(simp only[jq3,jq4];rfl)) ?_;(with_reducible refine(vx.calls k a0_0 a0_1 a0_2 a0_3 true _ A2.out).mono ?_);rintro e w90 ⟨rfl,hb⟩;refine⟨_,rfl,?_⟩;replace BK101:=O.mk (kz (by solve_by_elim only[BK101.out,qv,qw,qk]) hb);replace HB:=O.mk (zq (by solve_by_elim (maxDepth:=20) only[HB.out,J,L,I,qj,GE101.out]) hb);(try clear hb);obtain⟨y91_0,y91_1,y91_2,y91_3,z91_0,z91_1,z91_2,z91_3⟩:=bx4f BK101.out)|((with_reducible refine jq (f:=55) rfl ?_);refine goesL_ (some 92) rfl rfl Tryz.func55 (by kernel_rfl) rfl #[.int .i64 a0_1] rfl (by(try simp only[jq0,jq1,jq2]);first|done|rfl|(simp only[jq3,jq4];rfl)) ?_;(with_reducible refine(strconv_Itoa.calls a0_1 t113 _ ?tabw A86.out).mono ?_);(case tabw=>repeat(first|exact HTAB.out|exact TabW_below HTAB.out HB.out|exact TabW_below HTAB.out (by repeat(first|exact HB.out|apply J|apply L|apply I|refine qj ?_ GE101.out))|(with_reducible refine TabW_drewN ?_ _)|(with_reducible refine TabW_drew ?_)|(with_reducible refine TabW_alloc ?_ _)));rintro e w92 ⟨rfl,hb⟩;refine⟨_,rfl,?_⟩;replace BK101:=O.mk (kz (by solve_by_elim only[BK101.out,qv,qw,qk]) hb);replace HB:=O.mk (zq (by solve_by_elim (maxDepth:=20) only[HB.out,J,L,I,qj,GE101.out]) hb);(try clear hb)))
         go_ret
         exact⟨by first|rfl|(simp[*,zx,zw] <;> rfl),by solve_by_elim (maxDepth:=20) only[HB.out,J,L,I,qj,GE101.out]⟩
        ·rw[if_neg c87] at H;exact absurd H (by simp)
 ·replace c3:=jq9.mpr c3;subst c3;have H1:(some (⟨#[]⟩ : ByteArray))=some r:=by rw[if_neg (show ¬ (false=true) by decide)] at H;exact H
  clear H;have H:=H1;clear H1;obtain rfl:=Option.some.inj H;go_enter Tryz.func25,Tryz.ntmps25;go_wp2_with (first|((with_reducible refine gate_dst (N:=1) rfl ?_);refine box_event ?hg (N:=1) ?hd (cs:=#[.int .i64 a0_0,.int .i64 a0_1,.string a0_2,.string a0_3]) (t:=28) ?hr ?_;(case hd=>rfl);(case hg=>rfl);(case hr=>first|(go_simp;done)|(go_simp;rfl));intro gb101 hg w93 hbox hb;have BK101:=O.mk (hbox);have GW101:=O.mk ((by rw[hg];exact(zz (by solve_by_elim only[HB.out,J,L,I])):w.heap.size≤gb101));have GE101:=GW101;replace HB:=O.mk (zq (by solve_by_elim only[HB.out,J,L,I]) hb);clear hb hbox hg;obtain⟨y94_0,y94_1,y94_2,y94_3,z94_0,z94_1,z94_2,z94_3⟩:=bx4f BK101.out)|((with_reducible refine jq (f:=52) rfl ?_);refine goesL_ (some 10) rfl rfl Tryz.func52 (by kernel_rfl) rfl #[.agg #[.int .i64 a0_0,.int .i64 a0_1,.string a0_2,.string a0_3]] rfl (by(try simp only[jq0,jq1,jq2]);first|done|rfl|(simp only[jq3,jq4];rfl)) ?_;(with_reducible refine(vx.calls k a0_0 a0_1 a0_2 a0_3 false _ A2.out).mono ?_);rintro e w95 ⟨rfl,hb⟩;refine⟨_,rfl,?_⟩;replace BK101:=O.mk (kz (by solve_by_elim only[BK101.out,qv,qw,qk]) hb);replace HB:=O.mk (zq (by solve_by_elim (maxDepth:=20) only[HB.out,J,L,I,qj,GE101.out]) hb);(try clear hb)))
  go_ret
  exact⟨by first|rfl|(simp[*,zx,zw] <;> rfl),by solve_by_elim (maxDepth:=20) only[HB.out,J,L,I,qj,GE101.out]⟩
end Go.Proofs.YtnbbbjfjkhglhaaGreatDoor.Pr
namespace Go.Proofs.YtnbbbjfjkhglhaaGreatDoor.Pr
open Go.RowKit Go.Proofs.YtnbbbjfjkhglhaaGreatDoorW.PrintWords Go.Proofs.YtnbbbjfjkhglhaaGreatDoorW.PrintLast Go.Proofs.YtnbbbjfjkhglhaaGreatDoorW.PrintMore
set_option linter.unusedVariables false
set_option linter.unusedSimpArgs false
def opAt (n:Int):ByteArray:=opWords.getD (n - 1).toNat ⟨#[]⟩
def termB (l:ByteArray) (n:Int) (t:ByteArray):ByteArray:=(((l ++ (⟨#[32]⟩ : ByteArray)) ++ opAt n) ++ (⟨#[32]⟩ : ByteArray)) ++ t
def wj.f (k:Nat) (a0_0:ByteArray) (a0_1:Int) (a0_2:ByteArray) (a0_3:Int) (a0_4:Int) (a0_5:ByteArray) (a0_6:ByteArray):Option ByteArray :=
 (xz.f k a0_0 a0_1 a0_2 a0_3 a0_4 a0_5 a0_6).bind fun g=>if g=true then((vz.f k a0_3 a0_4 a0_5 a0_6).bind fun t=>if 1≤a0_1∧a0_1≤4∧a0_0.size≤1000000000∧t.size≤1000000000 then some (termB a0_0 a0_1 t) else none) else some ⟨#[]⟩
theorem opAt_size (n:Int):(opAt n).size≤2:=by
 unfold opAt
 have:∀ j:Nat,(opWords.getD j ⟨#[]⟩).size≤2:=fun j=>by
  match j with
  | 0=>decide
  | 1=>decide
  | 2=>decide
  | 3=>decide
  | j + 4=>exact Nat.zero_le _
 exact this _
set_option maxHeartbeats 4000000 in
theorem wj.calls (k:Nat) (a0_0:ByteArray) (a0_1:Int) (a0_2:ByteArray) (a0_3:Int) (a0_4:Int) (a0_5:ByteArray) (a0_6:ByteArray) (r:ByteArray) (w:World) (htab:TabW w) (h:wj.f k a0_0 a0_1 a0_2 a0_3 a0_4 a0_5 a0_6=some r) :
  Calls Tryz.prog 9 #[.agg #[.string a0_0,.int .i64 a0_1,.string a0_2,.int .i64 a0_3,.int .i64 a0_4,.string a0_5,.string a0_6]] w fun e w'=>e=.returned (.string r)∧Below w.heap.size w w':=by
 have HTAB:=O.mk htab;clear htab;obtain⟨g,hg,h⟩:=jq8.mp h;have HG:=O.mk hg;clear hg;have hu30:=Tryz.underlying30;have hu28:=Tryz.underlying28;have hal:=fun (o:Obj)=>J (Below.refl w.heap.size w) o
 cases g with
 | false =>
  rw[if_neg (by decide)] at h;obtain rfl:=Option.some.inj h;clear h;go_enter Tryz.func9,Tryz.ntmps9;go_wp2_with (first|(go_at_call 24;go_loud (refine(xz.calls k a0_0 a0_1 a0_2 a0_3 a0_4 a0_5 a0_6 _ _ HG.out).mono ?_;rintro e w1 ⟨rfl,hb⟩;have HB1:=O.mk ((hal _).trans (hb.mono (hal _).size));clear hb)))
  go_ret
  exact⟨rfl,HB1.out⟩
 | true =>
  rw[if_pos rfl] at h;obtain⟨t,ht,h⟩:=jq8.mp h
  by_cases hc : 1≤a0_1∧a0_1≤4∧a0_0.size≤1000000000∧t.size≤1000000000
  case neg=>rw[if_neg hc] at h;cases h
  rw[if_pos hc] at h;obtain rfl:=Option.some.inj h;obtain⟨hc1,hc2,hc3,hc4⟩:=hc;have HT:=O.mk ht;have hop:=opAt_size a0_1;obtain⟨j,rfl⟩ : ∃ j:Nat,a0_1=((j + 1:Nat):Int):=⟨(a0_1 - 1).toNat,by omega⟩;have hj:j < 4:=by omega
  have hoj:opWords[j]? = some (opAt ((j + 1:Nat):Int)):=by
   unfold opAt;rw[show(((j + 1:Nat):Int) - 1).toNat=j by omega,List.getD_eq_getElem?_getD,List.getElem?_eq_getElem (show j < opWords.length from hj)]
   rfl
  have HOJ:=O.mk hoj;obtain⟨q,eq⟩ : ∃ q,q=opAt ((j + 1:Nat):Int):=⟨_,rfl⟩;rw[← eq] at hop;have EQ:=O.mk eq;have s1:¬ 9223372036854775807 < a0_0.size + 1:=by omega
  have s2:¬ 9223372036854775807 < a0_0.size + 1 + q.size:=by omega
  have s3:¬ 9223372036854775807 < a0_0.size + 1 + q.size + 1:=by omega
  have s4:¬ 9223372036854775807 < a0_0.size + 1 + q.size + 1 + t.size:=by omega
  have w1a:wrap64 ((j:Int) + 1 - 1)=(j:Int):=by unfold wrap64;omega
  have p1:(0≤(j:Int))=True:=eq_true (by omega);have p2:((j:Int) < 4)=True:=eq_true (by omega);have p3:j < 4:=hj;clear h ht eq hoj hc1 hc2 hc3 hc4 hop;go_enter Tryz.func9,Tryz.ntmps9;go_wp2_with (first|(go_at_call 24;go_loud (refine(xz.calls k a0_0 ((j + 1:Nat):Int) a0_2 a0_3 a0_4 a0_5 a0_6 _ _ HG.out).mono ?_;rintro e w1 ⟨rfl,hb⟩;have HB1:=O.mk ((hal _).trans (hb.mono (hal _).size));have HBK:=O.mk (kz (blk_new w _) hb);clear hb)))
  have HT1:=O.mk (TabW_below HTAB.out HB1.out);obtain⟨A,cap,hA,hA2⟩:=HT1.out.2;have hq:=hA2 j q (by rw[EQ.out];exact HOJ.out)
  have hK:∀ W',Below w1.heap.size w1 W'→W'.cell? ⟨w.heap.size,0,none⟩ = some (.string a0_0)∧W'.cell? ⟨w.heap.size,1,none⟩ = some (.int .i64 ((j:Int) + 1))∧W'.cell? ⟨w.heap.size,3,none⟩ = some (.int .i64 a0_3)∧W'.cell? ⟨w.heap.size,4,none⟩ = some (.int .i64 a0_4)∧W'.cell? ⟨w.heap.size,5,none⟩ = some (.string a0_5)∧W'.cell? ⟨w.heap.size,6,none⟩ = some (.string a0_6)∧W'.cell? ⟨0,0,none⟩ = some (.slice (some A) 4 cap)∧W'.cell? (A.add j)=some (.string q):=fun W' hB=>by
   have hbk:=kz HBK.out hB;exact⟨qz hbk 0,qz hbk 1,qz hbk 3,qz hbk 4,qz hbk 5,qz hbk 6,(hB.cell (World.block_lt_of_cell? w1 _ hA)).trans hA,(hB.cell (World.block_lt_of_cell? w1 _ hq)).trans hq⟩
  obtain⟨k0,k1,k2,k3,k4,k5,k6,k7⟩:=hK w1 (Below.refl _ _);have w1b:wrap64 (j:Int)=(j:Int):=by unfold wrap64;omega
  have w1c:IntKind.i64.wrap (j:Int)=(j:Int):=by rw[i64_w];exact w1b
  have w1i:IntKind.i64.wrap ((j:Int) + 1 - 1)=(j:Int):=by rw[i64_w];exact w1a
  go_region_held3 (fun W'=>W'.cell? ⟨w.heap.size,0,none⟩ = some (.string a0_0)∧W'.cell? ⟨w.heap.size,1,none⟩ = some (.int .i64 ((j:Int) + 1))∧W'.cell? ⟨w.heap.size,3,none⟩ = some (.int .i64 a0_3)∧W'.cell? ⟨w.heap.size,4,none⟩ = some (.int .i64 a0_4)∧W'.cell? ⟨w.heap.size,5,none⟩ = some (.string a0_5)∧W'.cell? ⟨w.heap.size,6,none⟩ = some (.string a0_6)∧W'.cell? ⟨0,0,none⟩ = some (.slice (some A) 4 cap)∧W'.cell? (A.add j)=some (.string q)) (first|go_keep|exact hK _ ((Below.refl w1.heap.size w1).drew.trans hB)) (first|(go_at_call 25;refine(vz.calls k a0_3 a0_4 a0_5 a0_6 t _ (by first|exact TabW_drew HT1.out|exact HT1.out) HT.out).mono ?_;rintro e w' ⟨rfl,hB⟩))
  go_wp2;go_ret
  exact⟨by unfold termB;rw[← EQ.out];rfl,HB1.out.drew.trans (hB.mono HB1.out.size)⟩
end Go.Proofs.YtnbbbjfjkhglhaaGreatDoor.Pr
namespace Go.Proofs.YtnbbbjfjkhglhaaGreatDoor.Pr
open Go.RowKit Go.Proofs.YtnbbbjfjkhglhaaGreatDoorW.PrintWords Go.Proofs.YtnbbbjfjkhglhaaGreatDoorW.PrintLast Go.Proofs.YtnbbbjfjkhglhaaGreatDoorW.PrintMore
set_option linter.unusedVariables false
set_option linter.unusedSimpArgs false
set_option maxHeartbeats 1000000 in
theorem indexT30_calls (fn:Nat) (p:S30→Option Bool) (eg:Enters Tryz.prog fn) (hp:∀ (x:S30) (b:Bool) (W:World),p x=some b→Calls Tryz.prog fn #[.agg #[.string (x.f0),.int .i64 (x.f1),.string (x.f2),.int .i64 (x.f3.f0),.int .i64 (x.f3.f1),.string (x.f3.f2),.string (x.f3.f3)]] W fun e w'=>e=.returned (.bool b)∧Below W.heap.size W w')
  (A0:Option Addr) (c0:Nat) (l0:List S30) (r:Bool) (w:World) (hr0:Kd.C k30 w A0 l0.length l0) (h:anyO p l0=some r) :
  Calls Tryz.prog 82 #[.slice A0 l0.length c0,.func (.func fn) #[] #[]] w fun e w'=>∃ i:Int,e=.returned (.int .i64 i)∧decide (0≤i)=r∧Below w.heap.size w w':=by
 have hmax:=Kd.C_max hr0;have HR0:=O.mk hr0;have HM:=O.mk hmax;have HP:=O.mk hp;have HH:=O.mk h;clear hr0 hmax hp h;have e1:∀ (args:Array Value) (w:World),(callFunc fn args).run Tryz.prog w=.ok (.enter fn args) w:=eg;go_enter Tryz.func82,Tryz.ntmps82;go_wp2
 go_loopw [5,8] (fun v5 i W=>∃ k:Nat,k≤l0.length∧i=.int .i64 k∧O (anyO p (l0.drop k)=some r∧Below w.heap.size w W)) (fun _ i _=>l0.length - (intOf i).toNat)
 case atStart=>exact⟨0,by omega,rfl,⟨HH.out,by repeat(first|exact Below.refl _ _|apply below_drew|apply L)⟩⟩
 case round =>
  obtain⟨k,hk,rfl,HW⟩:=hrel;have hmax:=HM.out
  by_cases hlt:k < l0.length
  ·obtain⟨ad,ead,hx0,hx1,hx2,hx3,hx4,hx5,hx6⟩:=at_T30 HR0.out (k:Int) (by omega) (by omega)
   cases ead
   replace hx0:=(HW.out.2.cell (World.block_lt_of_cell? w _ hx0)).trans hx0;replace hx1:=(HW.out.2.cell (World.block_lt_of_cell? w _ hx1)).trans hx1;replace hx2:=(HW.out.2.cell (World.block_lt_of_cell? w _ hx2)).trans hx2;replace hx3:=(HW.out.2.cell (World.block_lt_of_cell? w _ hx3)).trans hx3;replace hx4:=(HW.out.2.cell (World.block_lt_of_cell? w _ hx4)).trans hx4;replace hx5:=(HW.out.2.cell (World.block_lt_of_cell? w _ hx5)).trans hx5;replace hx6:=(HW.out.2.cell (World.block_lt_of_cell? w _ hx6)).trans hx6;obtain⟨b,hb,h1,h2⟩:=anyO_drop hlt HW.out.1;have ex:kw l0 (k:Int)=l0[k]:=by simp[kw,List.getD_eq_getElem?_getD,List.getElem?_eq_getElem hlt]
   have HC:=O.mk (fun W=>HP.out l0[k] b W hb);clear hb;rw[← ex] at HC;clear ex;generalize kw l0 (k:Int)=x at HC hx0 hx1 hx2 hx3 hx4 hx5 hx6;rw[Int.toNat_natCast] at hx0 hx1 hx2 hx3 hx4 hx5 hx6
   cases b with
   | false =>
    have HB:=O.mk (h2 rfl);clear h1 h2;go_wp2_with (go_at_fn fn;refine(HC.out _).mono ?_;rintro e w' ⟨rfl,hb⟩;have HD:=O.mk (zq (by repeat(first|exact HW.out.2|apply below_drew|apply L)) hb);clear hb)
    go_roundw
    case rel=>exact⟨k + 1,by omega,by go_num,⟨HB.out,by repeat(first|exact HD.out|apply below_drew|apply L)⟩⟩
    case measure=>simp[intOf];omega
   | true =>
    have HB:=O.mk (h1 rfl);clear h1 h2;go_wp2_with (go_at_fn fn;refine(HC.out _).mono ?_;rintro e w' ⟨rfl,hb⟩;have HD:=O.mk (zq (by repeat(first|exact HW.out.2|apply below_drew|apply L)) hb);clear hb)
    go_ret
    exact⟨k,rfl,by rw[HB.out];exact decide_eq_true (by omega),by repeat(first|exact HD.out|apply below_drew|apply L)⟩
  ·obtain rfl:k=l0.length:=by omega
   rw[List.drop_length] at HW;go_wp2;go_ret
   exact⟨-1,rfl,by have:=Option.some.inj HW.out.1;rw[← this];rfl,by repeat(first|exact HW.out.2|apply below_drew|apply L)⟩
theorem containsT30_calls (fn:Nat) (p:S30→Option Bool) (eg:Enters Tryz.prog fn) (hp:∀ (x:S30) (b:Bool) (W:World),p x=some b→Calls Tryz.prog fn #[.agg #[.string (x.f0),.int .i64 (x.f1),.string (x.f2),.int .i64 (x.f3.f0),.int .i64 (x.f3.f1),.string (x.f3.f2),.string (x.f3.f3)]] W fun e w'=>e=.returned (.bool b)∧Below W.heap.size W w')
  (A0:Option Addr) (c0:Nat) (l0:List S30) (r:Bool) (w:World) (hr0:Kd.C k30 w A0 l0.length l0) (h:anyO p l0=some r) :
  Calls Tryz.prog 61 #[.slice A0 l0.length c0,.func (.func fn) #[] #[]] w fun e w'=>e=.returned (.bool r)∧Below w.heap.size w w':=by
 have C1:=O.mk (fun W (hW:Kd.C k30 W A0 l0.length l0)=>indexT30_calls fn p eg hp A0 c0 l0 r W hW h);have HR0:=O.mk hr0;clear hr0 hp h eg;go_enter Tryz.func61,Tryz.ntmps61;go_wp2_with (go_at_call 82;refine(C1.out _ (by repeat(first|exact HR0.out|apply Kd.C_drewN|apply Kd.C_drew))).mono ?_;rintro e w' ⟨i,rfl,hi,hb⟩;have HD:=O.mk (zq (by repeat(first|exact Below.refl _ _|apply below_drew|apply L)) hb);clear hb)
 go_ret
 exact⟨by simp only[← hi];rfl,by repeat(first|exact HD.out|apply below_drew|apply L)⟩
end Go.Proofs.YtnbbbjfjkhglhaaGreatDoor.Pr
namespace Go.Proofs.YtnbbbjfjkhglhaaGreatDoor.Pr
open Go.RowKit Go.Proofs.YtnbbbjfjkhglhaaGreatDoorW.PrintWords Go.Proofs.YtnbbbjfjkhglhaaGreatDoorW.PrintLast Go.Proofs.YtnbbbjfjkhglhaaGreatDoorW.PrintMore
attribute [local go_sem] max2_int min2_int max_two min_two max_three min_three max_four min_four
set_option linter.unusedVariables false
set_option linter.unusedSimpArgs false
def wx.f (k:Nat) (a0_0:ByteArray) (a0_1:Int) (a0_2:ByteArray) (a0_3:Int) (a0_4:Int) (a0_5:ByteArray) (a0_6:ByteArray):Option (Bool):=(xz.f k a0_0 a0_1 a0_2 a0_3 a0_4 a0_5 a0_6).bind fun t102=>(some (!t102))
theorem wx.mono:∀ a0 a1 a2 a3 a4 a5 a6 k,LeO (wx.f k a0 a1 a2 a3 a4 a5 a6) (wx.f (k + 1) a0 a1 a2 a3 a4 a5 a6):=by
 intro a0 a1 a2 a3 a4 a5 a6 k
 unfold wx.f
 repeat' first
   | (with_reducible exact xz.mono _ _ _ _ _ _ _ _)
   | (with_reducible exact LeO.refl _)
   | (with_reducible exact LeO.none _)
   | (with_reducible refine LeO.ite ?_ ?_)
   | (with_reducible refine LeO.bind ?_ (fun _=>?_))
   | exact xz.mono _ _ _ _ _ _ _ _
   | exact LeO.none _
   | refine LeO.ite ?_ ?_
   | refine LeO.bind ?_ (fun _=>?_)
theorem wx.calls (k:Nat) (a0_0:ByteArray) (a0_1:Int) (a0_2:ByteArray) (a0_3:Int) (a0_4:Int) (a0_5:ByteArray) (a0_6:ByteArray) (r:Bool) (w:World) (h:wx.f k a0_0 a0_1 a0_2 a0_3 a0_4 a0_5 a0_6=some r) :
  Calls Tryz.prog 62 #[.agg #[.string a0_0,.int .i64 a0_1,.string a0_2,.int .i64 a0_3,.int .i64 a0_4,.string a0_5,.string a0_6]] w fun e w'=>e=.returned (.bool r)∧Below w.heap.size w w':=by
 have hu30:=Tryz.underlying30;have HB:=O.mk (Below.refl w.heap.size w);unfold wx.f at h;have H:=h;clear h;replace H:=jq8.mp H;obtain⟨t102,A20,H⟩:=H;replace H:(some (!t102))=some r:=H;have A2:=O.mk A20;clear A20;obtain rfl:=Option.some.inj H;go_enter Tryz.func62,Tryz.ntmps62;go_wp2_with (first|((with_reducible refine gate_dst (N:=1) rfl ?_);refine box_event ?hg (N:=1) ?hd (cs:=#[.string a0_0,.int .i64 a0_1,.string a0_2,.int .i64 a0_3,.int .i64 a0_4,.string a0_5,.string a0_6]) (t:=30) ?hr ?_;(case hd=>rfl);(case hg=>rfl);(case hr=>first|(go_simp;done)|(go_simp;rfl));intro gb101 hg w3 hbox hb;have BK101:=O.mk (hbox);have GW101:=O.mk ((by rw[hg];exact(zz (by solve_by_elim only[HB.out,J,L,I])):w.heap.size≤gb101));have GE101:=GW101;replace HB:=O.mk (zq (by solve_by_elim only[HB.out,J,L,I]) hb);clear hb hbox hg;obtain⟨y4_0,y4_1,y4_2,y4_3,y4_4,y4_5,y4_6,z4_0,z4_1,z4_2,z4_3,z4_4,z4_5,z4_6⟩:=bx7f BK101.out)|((with_reducible refine jq (f:=24) rfl ?_);refine goesL_ (some 4) rfl rfl Tryz.func24 (by kernel_rfl) rfl #[.agg #[.string a0_0,.int .i64 a0_1,.string a0_2,.int .i64 a0_3,.int .i64 a0_4,.string a0_5,.string a0_6]] rfl (by(try simp only[jq0,jq1,jq2]);first|done|rfl|(simp only[jq3,jq4];rfl)) ?_;(with_reducible refine(xz.calls k a0_0 a0_1 a0_2 a0_3 a0_4 a0_5 a0_6 t102 _ A2.out).mono ?_);rintro e w5 ⟨rfl,hb⟩;refine⟨_,rfl,?_⟩;replace BK101:=O.mk (kz (by solve_by_elim only[BK101.out,qv,qw,qk]) hb);replace HB:=O.mk (zq (by solve_by_elim (maxDepth:=20) only[HB.out,J,L,I,qj,GE101.out]) hb);(try clear hb)))
 go_ret
 exact⟨by first|rfl|(simp[*,zx,zw] <;> rfl),by solve_by_elim (maxDepth:=20) only[HB.out,J,L,I,qj,GE101.out]⟩
end Go.Proofs.YtnbbbjfjkhglhaaGreatDoor.Pr
namespace Go.Proofs.YtnbbbjfjkhglhaaGreatDoor.Pr
open Go.RowKit Go.Proofs.YtnbbbjfjkhglhaaGreatDoorW.PrintWords Go.Proofs.YtnbbbjfjkhglhaaGreatDoorW.PrintLast Go.Proofs.YtnbbbjfjkhglhaaGreatDoorW.PrintMore
set_option linter.unusedVariables false
def has_impl_ygoodCap_1.f (k:Nat) (l:List S30):Option Bool:=anyO (fun x:S30=>wx.f k x.f0 x.f1 x.f2 x.f3.f0 x.f3.f1 x.f3.f2 x.f3.f3) l
theorem has_impl_ygoodCap_1.mono (l:List S30) (k:Nat):LeO (has_impl_ygoodCap_1.f k l) (has_impl_ygoodCap_1.f (k + 1) l):=anyO_mono (p:=fun x:S30=>wx.f k x.f0 x.f1 x.f2 x.f3.f0 x.f3.f1 x.f3.f2 x.f3.f3) (q:=fun x:S30=>wx.f (k + 1) x.f0 x.f1 x.f2 x.f3.f0 x.f3.f1 x.f3.f2 x.f3.f3) (fun x=>wx.mono x.f0 x.f1 x.f2 x.f3.f0 x.f3.f1 x.f3.f2 x.f3.f3 k) l
theorem has_impl_ygoodCap_1.calls (k:Nat) (A0:Option Addr) (c0:Nat) (l0:List S30) (r:Bool) (w:World) (hr0:Kd.C k30 w A0 l0.length l0) (hc0:l0.length≤c0) (h:has_impl_ygoodCap_1.f k l0=some r) :
  Calls Tryz.prog 61 #[.slice A0 l0.length c0,.func (.func 62) #[] #[]] w fun e w'=>e=.returned (.bool r)∧Below w.heap.size w w' :=
 containsT30_calls 62 (fun x:S30=>wx.f k x.f0 x.f1 x.f2 x.f3.f0 x.f3.f1 x.f3.f2 x.f3.f3) (enters_of Tryz.func62 (by kernel_rfl) rfl) (fun x b W hb=>wx.calls k x.f0 x.f1 x.f2 x.f3.f0 x.f3.f1 x.f3.f2 x.f3.f3 b W hb) A0 c0 l0 r w hr0 h
end Go.Proofs.YtnbbbjfjkhglhaaGreatDoor.Pr
