/- Printed texts, walks and plain facts that the law FnSets leans on, joined. -/
import Derived.Test.YtccbjchlcelkgaaFullFnSetsA
import Derived.ProofKit
import Derived.OpenShut
import Derived.ShutString
import Derived.ChangeOld
import Derived.Deep.Slices
import Derived.Lib.SmallJoins
import Derived.Test.YtccbjchlcelkgaaProg
import Derived.Below
import Derived.Deep.Draws
import Derived.Deep.AppendLies
import Derived.Maps.AppendAt
import Derived.OwnWalk
import Derived.Laws.BytesArg
import Derived.Laws.MakeOwn
import Derived.Laws.OwnMore
import Derived.Deep.OwnRows
import Derived.Tactics
import Derived.Lib.ConvBytes
import Derived.Laws.Slices
import Derived.WalkKit
import Derived.KernelRfl
import Derived.RowKit3
import Derived.Deep.LoopGhost
import Derived.Deep.QuietTactic
import Derived.BigQuiet
import Derived.WideLaws
import Derived.Deep.DeepCutAuto
import Derived.Deep.CutBlock
import Derived.Deep.RegionHeld3
import Derived.Laws.Rows
import Derived.Lib.AppendStr
import Derived.ArgAppend
import Derived.Laws.IdiomCopy
import Derived.OrdersHeld
import Derived.Laws.BitsLemmas
import Derived.RowKit
import Derived.Laws.Cover1
set_option maxHeartbeats 8000000
set_option maxRecDepth 100000
open List renaming map_toArray → jq0, map_cons → jq1, map_nil → jq2, length_drop → jq3, length_take → jq4, setIfInBounds_toArray → jq5, set_cons_zero → jq6, set_cons_succ → jq7
open Option renaming bind_eq_some_iff → jq8
open Bool renaming eq_false_iff → jq9, true → Z, false → Y
namespace Go.Proofs.Ytccbjchlcelkgaa.Read
open Go.RowKit Go.ChangeShapes Go.WideShapes Go.Deep Go.Proofs.YtccbjchlcelkgaaW.PrintWords
set_option linter.unusedVariables false
def Tells (P:Program) (t:TypeId) {α:Type} (d:Kd α) (ok : α→Prop):Prop :=
 P.cellsOf t=d.sz∧∀ (H:Type) (enc:TypeId × Value→H) (w:World) (sp:Nat→Bool) (fuel:Nat) (cs:List Value) (x:DataW H × List MemPlace),
  DataW.trod enc P w 0 sp true fuel t cs=some x→∃ a : α,d.K w a cs∧ok a
theorem tells_int {P:Program} {t:TypeId} {k:IntKind} (ht:P.underlying t=some (.int k)) (hc:P.cellsOf t=1):Tells P t (Kd.int k) (fun n=>(Lit.int k n).wf=true) :=
 ⟨hc,fun H enc w sp fuel cs x h=>by
  obtain⟨n,rfl,_,hw⟩:=DataW.trod_int ht h
  exact⟨n,rfl,hw⟩⟩
theorem tells_slice {P:Program} {t e:TypeId} {α:Type} {d:Kd α} {ok : α→Prop} (ht:P.underlying t=some (.slice e)) (hc:P.cellsOf t=1) (he:Tells P e d ok) :
  Tells P t (Kd.slice e d) (fun xs=>xs.length≤9223372036854775807∧∀ x ∈ xs,ok x):=by
 refine⟨hc,fun H enc w sp fuel cs x h=>?_⟩
 rcases open_slice ht h with ⟨rfl,_⟩|⟨a,len,cap,m,n,D,Pl,rfl,_,hl,hm,hmm,_,hx⟩
 ·exact⟨[],⟨none,0,rfl,by simp,Kd.C_nil d w⟩,by simp,by simp⟩
 ·have hlm:len≤m:=by rw[hmm];split <;> omega
  have hmax:len≤9223372036854775807:=by unfold maxLen at hm;omega
  have key:∀ j,j≤len→∃ xs:List α,xs.length=j∧(∀ x ∈ xs,ok x)∧∀ i p,xs[i]? = some p→∃ c,c.length=d.sz∧d.K w p c∧∀ k u,c[k]? = some u→w.cell? (a.add (i * d.sz + k))=some u:=by
   intro j
   induction j with
   | zero=>exact fun _=>⟨[],rfl,by simp,by simp⟩
   | succ j ih =>
    intro hj
    obtain⟨xs,hxl,hok,hc⟩:=ih (by omega)
    obtain⟨cs',h1,h2⟩:=hx j (by omega)
    obtain⟨y,hy,hoky⟩:=he.2 H enc w sp n cs' _ h2
    obtain⟨_,hcl,hcc⟩:=World.cells?_some h1
    refine⟨xs ++ [y],by simp[hxl],fun x hx=>?_,fun i p hp=>?_⟩
    ·rcases List.mem_append.1 hx with hx|hx
     ·exact hok x hx
     ·rw[List.mem_singleton.1 hx];exact hoky
    ·rcases Nat.lt_or_ge i xs.length with hi|hi
     ·rw[List.getElem?_append_left hi] at hp
      exact hc i p hp
     ·rw[List.getElem?_append_right hi] at hp
      have hi':i=xs.length:=by
       rcases Nat.eq_zero_or_pos (i - xs.length) with h0|h0
       ·omega
       ·rw[List.getElem?_eq_none (by simp;omega)] at hp;cases hp
      subst hi'
      simp only[Nat.sub_self,List.getElem?_cons_zero,Option.some.injEq] at hp
      subst hp
      refine⟨cs',by rw[hcl,he.1],hy,fun k u hu=>?_⟩
      have hk:k < P.cellsOf e:=by
       rcases Nat.lt_or_ge k cs'.length with h|h
       ·omega
       ·rw[List.getElem?_eq_none h] at hu;cases hu
      have:=hcc k hk
      rw[Go.Addr.add_add,he.1,← hxl] at this
      rw[this];exact hu
  obtain⟨xs,hxl,hok,hc⟩:=key len (Nat.le_refl _)
  refine⟨xs,⟨some a,cap,by rw[hxl],by omega,?_⟩,by omega,hok⟩
  exact⟨rfl,by omega,fun _=>⟨a,rfl,hc⟩⟩
theorem tells_weaken {P:Program} {t:TypeId} {α:Type} {d:Kd α} {ok ok' : α→Prop} (h:Tells P t d ok) (hw:∀ a,ok a→ok' a):Tells P t d ok' :=
 ⟨h.1,fun H enc w sp fuel cs x hx=>let ⟨a,ha,ho⟩:=h.2 H enc w sp fuel cs x hx;⟨a,ha,hw a ho⟩⟩
theorem tells_arg {P:Program} {t:TypeId} {α:Type} {d:Kd α} {ok : α→Prop} (h:Tells P t d ok) {H:Type} {enc:TypeId × Value→H} {w:World} {sp:Nat→Bool} {v:Value} {D:DataW H} {ps:List MemPlace}
  (hv:DataW.Trod enc P w 0 sp true t v D ps):∃ a,d.K w a v.cells.toList∧ok a:=by
 obtain⟨fuel,hf⟩:=hv
 exact h.2 H enc w sp fuel _ _ hf
theorem byte_bounds {n:Int} (h:(Lit.int .u8 n).wf=true) : 0≤n∧n≤255:=by
 simpa [Lit.wf,IntKind.min,IntKind.max,IntKind.signed,IntKind.bits] using h
def okI (n:Int):Prop:=-9223372036854775808≤n∧n≤9223372036854775807
def okB (n:Int):Prop:=0≤n∧n≤255
def okL {α:Type} (ok : α→Prop) (xs:List α):Prop:=xs.length≤9223372036854775807∧∀ x ∈ xs,ok x
theorem tellsB {P:Program} {t:TypeId} (ht:P.underlying t=some (.int .u8)) (hc:P.cellsOf t=1):Tells P t (Kd.int .u8) okB:=tells_weaken (tells_int ht hc) fun _ h=>byte_bounds h
theorem tellsL {P:Program} {t e:TypeId} {α:Type} {d:Kd α} {ok : α→Prop} (ht:P.underlying t=some (.slice e)) (hc:P.cellsOf t=1) (he:Tells P e d ok):Tells P t (Kd.slice e d) (okL ok):=tells_slice ht hc he
theorem arg_slice {P:Program} {t e:TypeId} {α:Type} {d:Kd α} {ok : α→Prop} (ht:P.underlying t=some (.slice e)) (h:Tells P t (Kd.slice e d) (okL ok)) {H:Type} {enc:TypeId × Value→H} {w w2:World} {r:Reach} {base:Nat} {sp:Nat→Bool} {v:Value} {D:DataW H} {ps:List MemPlace}
  (ho:Value.okWide P w2 r base t v) (hv:DataW.Trod enc P w 0 sp true t v D ps):∃ A c xs,v=.slice A xs.length c∧xs.length≤c∧d.C w A xs.length xs∧okL ok xs:=by
 obtain⟨a,l,c,rfl⟩:=okWide_slice ht ho
 obtain⟨xs,⟨A,c',hc,hl,hC⟩,hok⟩:=tells_arg h hv
 simp only[Value.cells,List.cons.injEq,and_true,Value.slice.injEq] at hc
 obtain⟨rfl,rfl,rfl⟩:=hc
 exact⟨_,_,xs,rfl,hl,hC,hok⟩
end Go.Proofs.Ytccbjchlcelkgaa.Read
namespace Go.Proofs.Ytccbjchlcelkgaa.Pr
open Go.RowKit Go.Proofs.YtccbjchlcelkgaaW.PrintWords Go.Proofs.YtccbjchlcelkgaaW.PrintLast Go.Proofs.YtccbjchlcelkgaaW.PrintMore
attribute [local go_sem] max2_int min2_int max_two min_two max_three min_three max_four min_four
set_option linter.unusedVariables false
set_option linter.unusedSimpArgs false
def errW:Option Int→Value
 | none=>.nilIface
 | some c=>.iface 0 (.int .i64 c)
theorem jv:errW none=.nilIface:=rfl
theorem jk (c:Int):errW (some c)=.iface 0 (.int .i64 c):=rfl
theorem info5:(Try.prog.info? 5).map (fun i=>(i.zero,i.size,i.bytes))=some (some (.int .u8 0),1,1):=by kernel_rfl
theorem info34:(Try.prog.info? 34).map (fun i=>(i.zero,i.size,i.bytes))=some (some (.agg #[(.int .i64 0),(.int .i64 0),(.string ⟨#[]⟩),(.string ⟨#[]⟩)]),4,48):=by kernel_rfl
structure S51 where
 f0:Int
 f1:Int
structure S34 where
 f0:Int
 f1:Int
 f2:ByteArray
 f3:ByteArray
def z34:S34:=⟨(0:Int),(0:Int),(⟨#[]⟩ : ByteArray),(⟨#[]⟩ : ByteArray)⟩
def k34:Kd S34:=Kd.iso (Kd.pair (Kd.int .i64) (Kd.pair (Kd.int .i64) (Kd.pair Kd.string Kd.string))) (fun x:S34=>(x.f0,x.f1,x.f2,x.f3))
theorem k34_open {w:World} {x:S34} {cs:List Value} (h:k34.K w x cs):cs=[.int .i64 x.f0,.int .i64 x.f1,.string x.f2,.string x.f3]:=by
 obtain⟨_,_,rfl,rfl,⟨_,_,rfl,rfl,⟨_,_,rfl,rfl,rfl⟩⟩⟩:=h
 exact rfl
theorem k34_openM {w:World} {base:Nat} {ok:Nat→Prop} {x:S34} {cs:List Value} (h:k34.M w base ok x cs):cs=[.int .i64 x.f0,.int .i64 x.f1,.string x.f2,.string x.f3]:=by
 obtain⟨_,_,rfl,rfl,⟨_,_,rfl,rfl,⟨_,_,rfl,rfl,rfl⟩⟩⟩:=h
 exact rfl
theorem k34_mkM (w:World) (base:Nat) (ok:Nat→Prop) (x:S34)  : k34.M w base ok x [.int .i64 x.f0,.int .i64 x.f1,.string x.f2,.string x.f3]:=⟨[.int .i64 x.f0],[.int .i64 x.f1,.string x.f2,.string x.f3],rfl,rfl,⟨[.int .i64 x.f1],[.string x.f2,.string x.f3],rfl,rfl,⟨[.string x.f2],[.string x.f3],rfl,rfl,rfl⟩⟩⟩
def vz (xs:List S34) (i:Int):S34:=xs.getD i.toNat z34
theorem at_T34 {w:World} {A:Option Addr} {n:Nat} {xs:List S34} (h:Kd.C k34 w A n xs) (i:Int) (h0 : 0≤i) (h1:i < n):∃ ad ,A=some ad∧w.cell? (ad.add (i.toNat * 4))=some (.int .i64 (vz xs i).f0)∧w.cell? ⟨(ad.add (i.toNat * 4)).block,(ad.add (i.toNat * 4)).off + 1,none⟩ = some (.int .i64 (vz xs i).f1)∧w.cell? ⟨(ad.add (i.toNat * 4)).block,(ad.add (i.toNat * 4)).off + 2,none⟩ = some (.string (vz xs i).f2)∧w.cell? ⟨(ad.add (i.toNat * 4)).block,(ad.add (i.toNat * 4)).off + 3,none⟩ = some (.string (vz xs i).f3):=by
 obtain⟨ad,c,e,_,hK,hc0⟩:=Kd.C_get h z34 i h0 h1
 have hc:∀ j u,c[j]? = some u→w.cell? (ad.add (i.toNat * 4 + j))=some u:=hc0
 obtain rfl:=k34_open hK
 exact⟨ad,e,hc 0 _ rfl,by rw[← add_field _ _ 1 (by omega)];exact hc 1 _ rfl,by rw[← add_field _ _ 2 (by omega)];exact hc 2 _ rfl,by rw[← add_field _ _ 3 (by omega)];exact hc 3 _ rfl⟩
structure S122 where
 f0:ByteArray
 f1:ByteArray
def z122:S122:=⟨(⟨#[]⟩ : ByteArray),(⟨#[]⟩ : ByteArray)⟩
def k122:Kd S122:=Kd.iso (Kd.pair Kd.string Kd.string) (fun x:S122=>(x.f0,x.f1))
theorem k122_open {w:World} {x:S122} {cs:List Value} (h:k122.K w x cs):cs=[.string x.f0,.string x.f1]:=by
 obtain⟨_,_,rfl,rfl,rfl⟩:=h
 exact rfl
def vq (xs:List S122) (i:Int):S122:=xs.getD i.toNat z122
theorem at_T122 {w:World} {A:Option Addr} {n:Nat} {xs:List S122} (h:Kd.C k122 w A n xs) (i:Int) (h0 : 0≤i) (h1:i < n):∃ ad ,A=some ad∧w.cell? (ad.add (i.toNat * 2))=some (.string (vq xs i).f0)∧w.cell? ⟨(ad.add (i.toNat * 2)).block,(ad.add (i.toNat * 2)).off + 1,none⟩ = some (.string (vq xs i).f1):=by
 obtain⟨ad,c,e,_,hK,hc0⟩:=Kd.C_get h z122 i h0 h1
 have hc:∀ j u,c[j]? = some u→w.cell? (ad.add (i.toNat * 2 + j))=some u:=hc0
 obtain rfl:=k122_open hK
 exact⟨ad,e,hc 0 _ rfl,by rw[← add_field _ _ 1 (by omega)];exact hc 1 _ rfl⟩
structure S76 where
 f0:ByteArray
 f1:Int
 f2:ByteArray
 f3:S34
def z76:S76:=⟨(⟨#[]⟩ : ByteArray),(0:Int),(⟨#[]⟩ : ByteArray),z34⟩
structure S151 where
 f0:ByteArray
 f1:Int
def bytesOfS.f (s:ByteArray):Option (List Int):=if s.size≤9223372036854775807 then some (bytesOf s) else none
def BytesCalls (P:Program) (src dst:TypeId) (s:ByteArray) (w:World) (R:Ending→World→Prop):Prop :=
 ∃ v w',(convert src dst (.string s)).run P w=.ok v w'∧R (.returned v) w'
theorem BytesCalls.mono {P:Program} {src dst:TypeId} {s:ByteArray} {w:World} {R R':Ending→World→Prop} (h:BytesCalls P src dst s w R) (hr:∀ e w',R e w'→R' e w'):BytesCalls P src dst s w R' :=
 let ⟨v,w',h1,h2⟩:=h;⟨v,w',h1,hr _ _ h2⟩
theorem bytesOfS.calls (a0:ByteArray) (r:List Int) (w:World) (h:bytesOfS.f a0=some r) :
  BytesCalls Try.prog 9 22 a0 w fun e w'=>∃ v0_:Value,e=.returned (v0_)∧Kd.V (Kd.int .u8) 5 w' w.heap.size (fun k_=>(w.heap.size≤k_)) v0_ r∧Below w.heap.size w w':=by
 unfold bytesOfS.f at h
 by_cases hs:a0.size≤9223372036854775807
 case neg=>rw[if_neg hs] at h;cases h
 rw[if_pos hs] at h
 obtain rfl:=Option.some.inj h
 refine⟨_,_,print_bytes 9 22 5 Try.underlying9 Try.underlying22 Try.underlying5 a0 w,_,rfl,?_,vk (Below.refl _ _) (Nat.le_refl _) 5 a0⟩
 have hcell:∀ W':World,W'.heap[w.heap.size]? = (Lib.bytesWorld w 5 a0).heap[w.heap.size]? → (Kd.int .u8).C W' (some ⟨w.heap.size,0,none⟩) (bytesOf a0).length (bytesOf a0):=by
  intro W' hW
  have h0:=vw w 5 a0 hs
  have h1:ReadsInt W' .u8 (some ⟨w.heap.size,0,none⟩) (bytesOf a0).length (bytesOf a0):=by
   refine⟨rfl,by rw[bytesOf_length];exact hs,fun hp=>?_⟩
   obtain⟨ad,e1,hc⟩:=h0.2.2 (by rw[bytesOf_length] at hp;exact hp)
   refine⟨ad,e1,fun j hj=>?_⟩
   rw[← hc j (by rw[bytesOf_length] at hj;exact hj)]
   injection e1 with e1
   subst e1
   rw[add_plain]
   exact World.cell?_of_block (by exact hW)
  exact Kd.C_of_reads (d:=(0:Int)) (h1:=fun _=>rfl) h1
 refine⟨some ⟨w.heap.size,0,none⟩,grownCap w a0.size 0 5,by rw[bytesOf_length],by rw[bytesOf_length];exact grownCap_ge _ _ _ _,fun W' hW=>hcell W' (hW _ (Nat.le_refl _) ?_)⟩
 rw[Lib.bytesWorld_size];omega
section
variable {P:Program} {ops:Array Oper} {Q:Exit→Act→World→Prop}
def BoxCalls (t:TypeId) (cs:Array Value) (w:World) (R:Ending→World→Prop):Prop:=R (.returned (.pointer (some ⟨w.heap.size,0,none⟩))) (w.alloc (.cells cs t (0,0)))
theorem BoxCalls.mono {t:TypeId} {cs:Array Value} {w:World} {R R':Ending→World→Prop} (h:BoxCalls t cs w R) (hr:∀ e w',R e w'→R' e w'):BoxCalls t cs w R':=hr _ _ h
theorem gate_box {rest:List Oper} {o:Oper} {a:Act} {W:World} {t:TypeId} {x:Operand} (_ho:o.op=.box t x) (h:wpList P ops Q (o :: rest) a W):wpList P ops Q (o :: rest) a W:=h
theorem boxGoesL_ {rest:List Oper} {oi:Oper} {a:Act} {w:World} (N:Option Tmp) (hd:oi.dst=N) (hg:oi.guard=none) {t:TypeId} {cs:Array Value}
  (hr:(execOp a.eval oi).run P w=.ok (.value (.pointer (some ⟨w.heap.size,0,none⟩))) (w.alloc (.cells cs t (0,0))))
  (h:BoxCalls t cs w fun e w'=>∃ v,e=.returned v∧wpList P ops Q rest (a.put N v) w'):wpList P ops Q (oi :: rest) a w:=by
 obtain⟨v',he,hw⟩:=h
 injection he with he
 subst he
 subst hd
 exact Kd.event_run hg hr hw
end
def kx (w0 W:World) (g:Nat) (f0:List Int) (f1:Int) (f2:Int):Prop:=∃ A0 c0,W.heap[g]? = some (.cells #[.slice A0 f0.length c0,.int .i64 f1,.int .u64 f2] 82 (0,0))∧w0.heap.size≤g∧Kd.C (Kd.int .u8) w0 A0 f0.length f0
theorem kx.grown {w0 W:World} {g:Nat} {f0:List Int} {f1:Int} {f2:Int} {W1:World} {row:Option Nat} (h:kx w0 W g f0 f1 f2) (hw:W.grownBy W1 row) (hne:some g≠row):kx w0 W1 g f0 f1 f2:=by
 obtain⟨A0,c0,hb,hg,hr0⟩:=h
 exact⟨A0,c0,blk_grown hb hw hne,hg,hr0⟩
theorem kx.kept {w0 W:World} {g:Nat} {f0:List Int} {f1:Int} {f2:Int} {W1:World} {S:Nat→Prop} (h:kx w0 W g f0 f1 f2) (hk:kj W W1 S) (hne:¬ S g):kx w0 W1 g f0 f1 f2:=by
 obtain⟨A0,c0,hb,hg,hr0⟩:=h
 exact⟨A0,c0,blk_kept hb hk hne,hg,hr0⟩
theorem kx.below {w0 W:World} {g:Nat} {f0:List Int} {f1:Int} {f2:Int} {W1:World} (h:kx w0 W g f0 f1 f2) (hw:Below W.heap.size W W1):kx w0 W1 g f0 f1 f2:=h.grown (grown_of_below hw none) (by simp)
theorem kx.alloc {w0 W:World} {g:Nat} {f0:List Int} {f1:Int} {f2:Int} (h:kx w0 W g f0 f1 f2) (o:Obj):kx w0 (W.alloc o) g f0 f1 f2:=h.below (G (Below.refl _ _) o)
theorem kx.drewN {w0 W:World} {g:Nat} {f0:List Int} {f1:Int} {f2:Int} (h:kx w0 W g f0 f1 f2) (m:Nat):kx w0 (W.drewN m) g f0 f1 f2:=h
theorem kx.drew {w0 W:World} {g:Nat} {f0:List Int} {f1:Int} {f2:Int} (h:kx w0 W g f0 f1 f2):kx w0 W.drew g f0 f1 f2:=h
theorem kx.at_ {w0 W:World} {g:Nat} {f0:List Int} {f1:Int} {f2:Int} {w':World} {m:Nat} (hq:W.drewN m=w') (h:kx w0 W g f0 f1 f2):kx w0 w' g f0 f1 f2:=by subst hq;exact kx.drewN h m
theorem kx.apart {w0 W:World} {g:Nat} {f0:List Int} {f1:Int} {f2:Int} {α:Type} {d:Kd α} {e:Nat} {base:Nat} {ok:Nat→Prop} {v:Value} {xs:List α} (h:kx w0 W g f0 f1 f2) (ho:d.R e W base ok v xs) (ht:∀ q,q ∈ e :: d.E→q≠82):d.R e W base (fun k=>ok k∧k≠g) v xs:=by
 obtain⟨A0,c0,hb,hg,hr0⟩:=h
 exact Kd.R_types ho hb ht
theorem kx.own_ne {w0 W:World} {g:Nat} {f0:List Int} {f1:Int} {f2:Int} {α:Type} {d:Kd α} {e:Nat} {base:Nat} {ok:Nat→Prop} {v:Value} {xs:List α} (h:kx w0 W g f0 f1 f2) (ho:d.R e W base ok v xs) (ht:e≠82):some g≠v.ownBlock:=by
 obtain⟨A0,c0,hb,hg,hr0⟩:=h
 exact Kd.R_ne ho hb ht
theorem kx.lt {w0 W:World} {g:Nat} {f0:List Int} {f1:Int} {f2:Int} (h:kx w0 W g f0 f1 f2):g < W.heap.size:=by
 obtain⟨A0,c0,hb,hg,hr0⟩:=h
 exact blk_lt hb
theorem kx.ge {w0 W:World} {g:Nat} {f0:List Int} {f1:Int} {f2:Int} (h:kx w0 W g f0 f1 f2):w0.heap.size≤g:=by
 obtain⟨A0,c0,hb,hg,hr0⟩:=h
 exact hg
theorem kx.far {w0 W:World} {g:Nat} {f0:List Int} {f1:Int} {f2:Int} {p:Addr} (h:kx w0 W g f0 f1 f2) (hne:g≠p.block) (u:Value):kx w0 (W.setCell p u) g f0 f1 f2:=by
 obtain⟨A0,c0,hb,hg,hr0⟩:=h
 exact⟨A0,c0,blk_far hb hne u,hg,hr0⟩
theorem cellS82_0 {W:World} {g:Nat} {A0:Option Addr} {c0:Nat} {f0:List Int} {f1:Int} {f2:Int} (h:W.heap[g]? = some (.cells #[.slice A0 f0.length c0,.int .i64 f1,.int .u64 f2] 82 (0,0))):W.cell? ⟨g,0,none⟩ = some (.slice A0 f0.length c0):=(qj h 0).trans rfl
theorem cellS82_1 {W:World} {g:Nat} {A0:Option Addr} {c0:Nat} {f0:List Int} {f1:Int} {f2:Int} (h:W.heap[g]? = some (.cells #[.slice A0 f0.length c0,.int .i64 f1,.int .u64 f2] 82 (0,0))):W.cell? ⟨g,1,none⟩ = some (.int .i64 f1):=(qj h 1).trans rfl
theorem kx.set_1 {w0 W:World} {g:Nat} {f0:List Int} {f1:Int} {f2:Int} (h:kx w0 W g f0 f1 f2) (x:Int):kx w0 (W.setCell ⟨g,1,none⟩ (.int .i64 x)) g f0 x f2:=by
 obtain⟨A0,c0,hb,hg,hr0⟩:=h
 exact⟨A0,c0,by simpa using blk_set hb 1 (.int .i64 x),hg,hr0⟩
theorem cellS82_2 {W:World} {g:Nat} {A0:Option Addr} {c0:Nat} {f0:List Int} {f1:Int} {f2:Int} (h:W.heap[g]? = some (.cells #[.slice A0 f0.length c0,.int .i64 f1,.int .u64 f2] 82 (0,0))):W.cell? ⟨g,2,none⟩ = some (.int .u64 f2):=(qj h 2).trans rfl
theorem kx.set_2 {w0 W:World} {g:Nat} {f0:List Int} {f1:Int} {f2:Int} (h:kx w0 W g f0 f1 f2) (x:Int):kx w0 (W.setCell ⟨g,2,none⟩ (.int .u64 x)) g f0 f1 x:=by
 obtain⟨A0,c0,hb,hg,hr0⟩:=h
 exact⟨A0,c0,by simpa using blk_set hb 2 (.int .u64 x),hg,hr0⟩
theorem kx.new (w0 W:World) (A0:Option Addr) (c0:Nat) (f0:List Int) (f1:Int) (f2:Int) (hB:Below w0.heap.size w0 W) (hr0:Kd.C (Kd.int .u8) w0 A0 f0.length f0):kx w0 (W.alloc (.cells #[.slice A0 f0.length c0,.int .i64 f1,.int .u64 f2] 82)) W.heap.size f0 f1 f2:=⟨A0,c0,by simpa using heap_alloc_new W _,hB.size,hr0⟩
def newCur.f (l0_0:List Int) (a0_1:Int) (a0_2:Int):Option (List Int × Int × Int):=some (l0_0,a0_1,a0_2)
theorem newCur.calls (A0_0:Option Addr) (c0_0:Nat) (l0_0:List Int) (a0_1:Int) (a0_2:Int) (r1:List Int) (r2:Int) (r3:Int) (w0 w:World) (hB:Below w0.heap.size w0 w) (hr0_0:Kd.C (Kd.int .u8) w0 A0_0 l0_0.length l0_0) (hc0_0:l0_0.length≤c0_0) (h:newCur.f l0_0 a0_1 a0_2=some (r1,r2,r3)) :
  BoxCalls 82 #[.slice A0_0 l0_0.length c0_0,.int .i64 a0_1,.int .u64 a0_2] w fun e w'=>∃ g_:Nat,e=.returned (.pointer (some ⟨g_,0,none⟩))∧kx w0 w' g_ r1 r2 r3∧Below w0.heap.size w0 w'∧Below w.heap.size w w':=by
 unfold newCur.f at h
 simp only[Option.some.injEq,Prod.mk.injEq] at h
 obtain⟨rfl,rfl,rfl⟩:=h
 exact⟨_,rfl,kx.new w0 w A0_0 c0_0 l0_0 a0_1 a0_2 hB hr0_0,hB.alloc hB.size _,G (Below.refl _ _) _⟩
def qjj.f (s0_0:List Int) (s0_1:Int) (s0_2:Int):Option (Int × Int × Int):=if s0_1 < (s0_0.length:Int) then(if 0≤s0_1 then(if (wrap64 (s0_1 + 1))≤(s0_0.length:Int) then(some (wrap64 (rd s0_0 s0_1),wrap64 (s0_1 + 1),IntKind.u64.wrap ((IntKind.u64.wrap ((IntKind.u64.wrap (s0_2 * 6364136223846793005)) + (IntKind.u64.wrap (wrap64 (rd s0_0 s0_1))))) + 1442695040888963407))) else(some (wrap64 (Go.bits .and .u64 ((IntKind.u64.wrap ((IntKind.u64.wrap ((IntKind.u64.wrap (s0_2 * 6364136223846793005)) + (IntKind.u64.wrap (wrap64 (rd s0_0 s0_1))))) + 1442695040888963407)) / 1099511627776) 255),wrap64 (s0_1 + 1),IntKind.u64.wrap ((IntKind.u64.wrap ((IntKind.u64.wrap (s0_2 * 6364136223846793005)) + (IntKind.u64.wrap (wrap64 (rd s0_0 s0_1))))) + 1442695040888963407)))) else(none)) else(if (wrap64 (s0_1 + 1))≤(s0_0.length:Int) then(some (0,wrap64 (s0_1 + 1),IntKind.u64.wrap ((IntKind.u64.wrap (IntKind.u64.wrap (s0_2 * 6364136223846793005))) + 1442695040888963407))) else(some (wrap64 (Go.bits .and .u64 ((IntKind.u64.wrap ((IntKind.u64.wrap (IntKind.u64.wrap (s0_2 * 6364136223846793005))) + 1442695040888963407)) / 1099511627776) 255),wrap64 (s0_1 + 1),IntKind.u64.wrap ((IntKind.u64.wrap (IntKind.u64.wrap (s0_2 * 6364136223846793005))) + 1442695040888963407))))
theorem qjj.calls (g:Nat) (s0_0:List Int) (s0_1:Int) (s0_2:Int) (r1:Int) (r2:Int) (r3:Int) (w0 w:World) (hI:kx w0 w g s0_0 s0_1 s0_2) (hB:Below w0.heap.size w0 w) (h:qjj.f s0_0 s0_1 s0_2=some (r1,r2,r3)) :
  Calls Try.prog 122 #[.pointer (some ⟨g,0,none⟩)] w fun e w'=>e=.returned (.int .i64 r1)∧kx w0 w' g s0_0 r2 r3∧Below w0.heap.size w0 w'∧zq w w' g none:=by
 have HI0:=U.mk hI
 have HK:=U.mk (zq.refl w g none)
 have HL:=U.mk hB.size
 clear hI
 have HW0:=U.mk hB.size
 have HB:=U.mk hB
 clear hB
 unfold qjj.f at h
 have H:=h
 clear h
 by_cases c2:s0_1 < (s0_0.length:Int)
 ·rw[if_pos c2] at H
  have c2b0:decide (s0_1 < (s0_0.length:Int))=true:=decide_eq_true c2
  clear c2
  by_cases c3 : 0≤s0_1
  ·rw[if_pos c3] at H
   have c3b0:decide (0≤s0_1)=true:=decide_eq_true c3
   clear c3
   by_cases c4:(wrap64 (s0_1 + 1))≤(s0_0.length:Int)
   ·rw[if_pos c4] at H
    have c4b0:decide ((wrap64 (s0_1 + 1))≤(s0_0.length:Int))=true:=decide_eq_true c4
    clear c4
    simp only[Option.some.injEq,Prod.mk.injEq] at H
    obtain⟨rfl,rfl,rfl⟩:=H
    obtain⟨ASz5_0,cSz5_0,HGz5,hgz5,HSz5_0⟩:=HI0.out
    have hcz5_0:=cellS82_0 HGz5
    have hcz5_1:=cellS82_1 HGz5
    have hcz5_2:=cellS82_2 HGz5
    have hfz5_1:=qz HGz5 1
    have hfz5_2:=qz HGz5 2
    clear HGz5 hgz5
    have p101 : 0≤(s0_1:Int):=of_decide_eq_true (by assumption)
    have q101:s0_1 < (s0_0.length:Int):=of_decide_eq_true (by assumption)
    obtain⟨ad101,e101,hx101_0⟩:=Kd.at_int HSz5_0 s0_1 p101 q101
    cases e101
    replace hx101_0:=pw_cell_below HB.out hx101_0
    replace p101:=eq_true p101
    replace q101:=eq_true q101
    go_enter Try.func122,Try.ntmps122
    go_wp2
    repeat(go_quiet (fail);try go_wp2)
    go_ret
    exact⟨by first|rfl|(simp[*,jv,jk] <;> rfl),by repeat(first|(with_reducible first|exact HI0.out|apply kx.alloc|apply kx.drewN|apply kx.drew|apply kx.set_1|apply kx.set_2)|exact HI0.out),by repeat(first|(with_reducible first|exact HB.out|apply G|apply J|apply qq|refine qk ?_ (kx.ge HI0.out))|exact HB.out),by repeat(first|(with_reducible first|exact HK.out|apply zq.set_|apply zx|apply jz|apply jq)|exact HK.out)⟩
   ·rw[if_neg c4] at H
    have c4b0:decide ((wrap64 (s0_1 + 1))≤(s0_0.length:Int))=false:=decide_eq_false c4
    clear c4
    simp only[Option.some.injEq,Prod.mk.injEq] at H
    obtain⟨rfl,rfl,rfl⟩:=H
    obtain⟨ASz6_0,cSz6_0,HGz6,hgz6,HSz6_0⟩:=HI0.out
    have hcz6_0:=cellS82_0 HGz6
    have hcz6_1:=cellS82_1 HGz6
    have hcz6_2:=cellS82_2 HGz6
    have hfz6_1:=qz HGz6 1
    have hfz6_2:=qz HGz6 2
    clear HGz6 hgz6
    have p101 : 0≤(s0_1:Int):=of_decide_eq_true (by assumption)
    have q101:s0_1 < (s0_0.length:Int):=of_decide_eq_true (by assumption)
    obtain⟨ad101,e101,hx101_0⟩:=Kd.at_int HSz6_0 s0_1 p101 q101
    cases e101
    replace hx101_0:=pw_cell_below HB.out hx101_0
    replace p101:=eq_true p101
    replace q101:=eq_true q101
    go_enter Try.func122,Try.ntmps122
    go_wp2
    repeat(go_quiet (fail);try go_wp2)
    go_ret
    exact⟨by first|rfl|(simp[*,jv,jk] <;> rfl),by repeat(first|(with_reducible first|exact HI0.out|apply kx.alloc|apply kx.drewN|apply kx.drew|apply kx.set_1|apply kx.set_2)|exact HI0.out),by repeat(first|(with_reducible first|exact HB.out|apply G|apply J|apply qq|refine qk ?_ (kx.ge HI0.out))|exact HB.out),by repeat(first|(with_reducible first|exact HK.out|apply zq.set_|apply zx|apply jz|apply jq)|exact HK.out)⟩
  ·rw[if_neg c3] at H
   exact absurd H (by simp)
 ·rw[if_neg c2] at H
  have c2b0:decide (s0_1 < (s0_0.length:Int))=false:=decide_eq_false c2
  clear c2
  by_cases c7:(wrap64 (s0_1 + 1))≤(s0_0.length:Int)
  ·rw[if_pos c7] at H
   have c7b0:decide ((wrap64 (s0_1 + 1))≤(s0_0.length:Int))=true:=decide_eq_true c7
   clear c7
   simp only[Option.some.injEq,Prod.mk.injEq] at H
   obtain⟨rfl,rfl,rfl⟩:=H
   obtain⟨ASz8_0,cSz8_0,HGz8,hgz8,HSz8_0⟩:=HI0.out
   have hcz8_0:=cellS82_0 HGz8
   have hcz8_1:=cellS82_1 HGz8
   have hcz8_2:=cellS82_2 HGz8
   have hfz8_1:=qz HGz8 1
   have hfz8_2:=qz HGz8 2
   clear HGz8 hgz8
   go_enter Try.func122,Try.ntmps122
   go_wp2
   repeat(go_quiet (fail);try go_wp2)
   go_ret
   exact⟨by first|rfl|(simp[*,jv,jk] <;> rfl),by repeat(first|(with_reducible first|exact HI0.out|apply kx.alloc|apply kx.drewN|apply kx.drew|apply kx.set_1|apply kx.set_2)|exact HI0.out),by repeat(first|(with_reducible first|exact HB.out|apply G|apply J|apply qq|refine qk ?_ (kx.ge HI0.out))|exact HB.out),by repeat(first|(with_reducible first|exact HK.out|apply zq.set_|apply zx|apply jz|apply jq)|exact HK.out)⟩
  ·rw[if_neg c7] at H
   have c7b0:decide ((wrap64 (s0_1 + 1))≤(s0_0.length:Int))=false:=decide_eq_false c7
   clear c7
   simp only[Option.some.injEq,Prod.mk.injEq] at H
   obtain⟨rfl,rfl,rfl⟩:=H
   obtain⟨ASz9_0,cSz9_0,HGz9,hgz9,HSz9_0⟩:=HI0.out
   have hcz9_0:=cellS82_0 HGz9
   have hcz9_1:=cellS82_1 HGz9
   have hcz9_2:=cellS82_2 HGz9
   have hfz9_1:=qz HGz9 1
   have hfz9_2:=qz HGz9 2
   clear HGz9 hgz9
   go_enter Try.func122,Try.ntmps122
   go_wp2
   repeat(go_quiet (fail);try go_wp2)
   go_ret
   exact⟨by first|rfl|(simp[*,jv,jk] <;> rfl),by repeat(first|(with_reducible first|exact HI0.out|apply kx.alloc|apply kx.drewN|apply kx.drew|apply kx.set_1|apply kx.set_2)|exact HI0.out),by repeat(first|(with_reducible first|exact HB.out|apply G|apply J|apply qq|refine qk ?_ (kx.ge HI0.out))|exact HB.out),by repeat(first|(with_reducible first|exact HK.out|apply zq.set_|apply zx|apply jz|apply jq)|exact HK.out)⟩
def qjx.f (s0_0:List Int) (s0_1:Int) (s0_2:Int) (a1:Int):Option (Int × Int × Int):=if a1≤1 then(some (0,s0_1,s0_2)) else((qjj.f s0_0 s0_1 s0_2).bind fun bt101=>(if a1 > 200 then((qjj.f s0_0 bt101.2.1 bt101.2.2).bind fun bt104=>(if a1=0 then(none) else(some (Int.tmod (wrap64 ((wrap64 (bt101.1 * 256)) + bt104.1)) a1,bt104.2.1,bt104.2.2)))) else(if a1=0 then(none) else(some (Int.tmod bt101.1 a1,bt101.2.1,bt101.2.2)))))
theorem qjx.calls (g:Nat) (s0_0:List Int) (s0_1:Int) (s0_2:Int) (a1:Int) (r1:Int) (r2:Int) (r3:Int) (w0 w:World) (hI:kx w0 w g s0_0 s0_1 s0_2) (hB:Below w0.heap.size w0 w) (h:qjx.f s0_0 s0_1 s0_2 a1=some (r1,r2,r3)) :
  Calls Try.prog 54 #[.pointer (some ⟨g,0,none⟩),.int .i64 a1] w fun e w'=>e=.returned (.int .i64 r1)∧kx w0 w' g s0_0 r2 r3∧Below w0.heap.size w0 w'∧zq w w' g none:=by
 have HI0:=U.mk hI
 have HK:=U.mk (zq.refl w g none)
 have HL:=U.mk hB.size
 clear hI
 have HW0:=U.mk hB.size
 have HB:=U.mk hB
 clear hB
 unfold qjx.f at h
 have H:=h
 clear h
 by_cases c3:a1≤1
 ·rw[if_pos c3] at H
  have c3b0:decide (a1≤1)=true:=decide_eq_true c3
  clear c3
  simp only[Option.some.injEq,Prod.mk.injEq] at H
  obtain⟨rfl,rfl,rfl⟩:=H
  go_enter Try.func54,Try.ntmps54
  go_wp2
  go_ret
  exact⟨by first|rfl|(simp[*,jv,jk] <;> rfl),by repeat(first|(with_reducible first|exact HI0.out|apply kx.alloc|apply kx.drewN|apply kx.drew|apply kx.set_1|apply kx.set_2)|exact HI0.out),by repeat(first|(with_reducible first|exact HB.out|apply G|apply J|apply qq|refine qk ?_ (kx.ge HI0.out))|exact HB.out),by repeat(first|(with_reducible first|exact HK.out|apply zq.set_|apply zx|apply jz|apply jq)|exact HK.out)⟩
 ·rw[if_neg c3] at H
  have c3b0:decide (a1≤1)=false:=decide_eq_false c3
  clear c3
  replace H:=jq8.mp H
  obtain⟨⟨t101,t102,t103⟩,A40,H⟩:=H
  try dsimp only at H
  have A4:=U.mk A40
  clear A40
  by_cases c5:a1 > 200
  ·rw[if_pos c5] at H
   have c5b0:decide (200 < a1)=true:=decide_eq_true c5
   clear c5
   replace H:=jq8.mp H
   obtain⟨⟨t104,t105,t106⟩,A60,H⟩:=H
   try dsimp only at H
   have A6:=U.mk A60
   clear A60
   by_cases c7:a1=0
   ·rw[if_pos c7] at H
    exact absurd H (by simp)
   ·rw[if_neg c7] at H
    have c7b0:(a1 == 0)=false:=beq_eq_false_iff_ne.mpr c7
    have c7b1:(a1 != 0)=true:=bne_iff_ne.mpr c7
    simp only[Option.some.injEq,Prod.mk.injEq] at H
    obtain⟨rfl,rfl,rfl⟩:=H
    go_enter Try.func54,Try.ntmps54
    go_wp2_with (first|((with_reducible refine jw (f:=122) rfl ?_);refine goesL_ (some 9) rfl rfl Try.func122 (by kernel_rfl) rfl #[.pointer (some ⟨g,0,none⟩)] rfl (by(try simp only[jq0,jq1,jq2]);first|done|rfl|(simp only[jq3,jq4];rfl)) ?_;(with_reducible refine(qjj.calls g s0_0 s0_1 s0_2 t101 t102 t103 w0 _ ?side1 ?side2 A4.out).mono ?_);(case side1=>repeat(first|(with_reducible first|exact HI0.out|apply kx.alloc|apply kx.drewN|apply kx.drew|apply kx.set_1|apply kx.set_2)|exact HI0.out));(case side2=>repeat(first|(with_reducible first|exact HB.out|apply G|apply J|apply qq|refine qk ?_ (kx.ge HI0.out))|exact HB.out));rintro e w8 ⟨rfl,hi,hb,hk⟩;refine⟨_,rfl,?_⟩;replace HK:=U.mk (zq.trans (by solve_by_elim (maxDepth:=20) only[HK.out,zq.set_,zx,jz,jq]) hk (.inl rfl));replace HB:=U.mk (hb);replace HI0:=U.mk (hi);(try clear hb hk hi))|((with_reducible refine jw (f:=122) rfl ?_);refine goesL_ (some 15) rfl rfl Try.func122 (by kernel_rfl) rfl #[.pointer (some ⟨g,0,none⟩)] rfl (by(try simp only[jq0,jq1,jq2]);first|done|rfl|(simp only[jq3,jq4];rfl)) ?_;(with_reducible refine(qjj.calls g s0_0 t102 t103 t104 t105 t106 w0 _ ?side1 ?side2 A6.out).mono ?_);(case side1=>repeat(first|(with_reducible first|exact HI0.out|apply kx.alloc|apply kx.drewN|apply kx.drew|apply kx.set_1|apply kx.set_2)|exact HI0.out));(case side2=>repeat(first|(with_reducible first|exact HB.out|apply G|apply J|apply qq|refine qk ?_ (kx.ge HI0.out))|exact HB.out));rintro e w9 ⟨rfl,hi,hb,hk⟩;refine⟨_,rfl,?_⟩;replace HK:=U.mk (zq.trans (by solve_by_elim (maxDepth:=20) only[HK.out,zq.set_,zx,jz,jq]) hk (.inl rfl));replace HB:=U.mk (hb);replace HI0:=U.mk (hi);(try clear hb hk hi)))
    go_ret
    exact⟨by first|rfl|(simp[*,jv,jk] <;> rfl),by repeat(first|(with_reducible first|exact HI0.out|apply kx.alloc|apply kx.drewN|apply kx.drew|apply kx.set_1|apply kx.set_2)|exact HI0.out),by repeat(first|(with_reducible first|exact HB.out|apply G|apply J|apply qq|refine qk ?_ (kx.ge HI0.out))|exact HB.out),by repeat(first|(with_reducible first|exact HK.out|apply zq.set_|apply zx|apply jz|apply jq)|exact HK.out)⟩
  ·rw[if_neg c5] at H
   have c5b0:decide (200 < a1)=false:=decide_eq_false c5
   clear c5
   by_cases c10:a1=0
   ·rw[if_pos c10] at H
    exact absurd H (by simp)
   ·rw[if_neg c10] at H
    have c10b0:(a1 == 0)=false:=beq_eq_false_iff_ne.mpr c10
    have c10b1:(a1 != 0)=true:=bne_iff_ne.mpr c10
    simp only[Option.some.injEq,Prod.mk.injEq] at H
    obtain⟨rfl,rfl,rfl⟩:=H
    go_enter Try.func54,Try.ntmps54
    go_wp2_with (first|((with_reducible refine jw (f:=122) rfl ?_);refine goesL_ (some 9) rfl rfl Try.func122 (by kernel_rfl) rfl #[.pointer (some ⟨g,0,none⟩)] rfl (by(try simp only[jq0,jq1,jq2]);first|done|rfl|(simp only[jq3,jq4];rfl)) ?_;(with_reducible refine(qjj.calls g s0_0 s0_1 s0_2 t101 t102 t103 w0 _ ?side1 ?side2 A4.out).mono ?_);(case side1=>repeat(first|(with_reducible first|exact HI0.out|apply kx.alloc|apply kx.drewN|apply kx.drew|apply kx.set_1|apply kx.set_2)|exact HI0.out));(case side2=>repeat(first|(with_reducible first|exact HB.out|apply G|apply J|apply qq|refine qk ?_ (kx.ge HI0.out))|exact HB.out));rintro e w11 ⟨rfl,hi,hb,hk⟩;refine⟨_,rfl,?_⟩;replace HK:=U.mk (zq.trans (by solve_by_elim (maxDepth:=20) only[HK.out,zq.set_,zx,jz,jq]) hk (.inl rfl));replace HB:=U.mk (hb);replace HI0:=U.mk (hi);(try clear hb hk hi)))
    go_ret
    exact⟨by first|rfl|(simp[*,jv,jk] <;> rfl),by repeat(first|(with_reducible first|exact HI0.out|apply kx.alloc|apply kx.drewN|apply kx.drew|apply kx.set_1|apply kx.set_2)|exact HI0.out),by repeat(first|(with_reducible first|exact HB.out|apply G|apply J|apply qq|refine qk ?_ (kx.ge HI0.out))|exact HB.out),by repeat(first|(with_reducible first|exact HK.out|apply zq.set_|apply zx|apply jz|apply jq)|exact HK.out)⟩
def qjw.f (s0_0:List Int) (s0_1:Int) (s0_2:Int) (a1:Int):Option (Bool × Int × Int):=(qjx.f s0_0 s0_1 s0_2 a1).bind fun bt101=>(some ((bt101.1 == 0),bt101.2.1,bt101.2.2))
theorem qjw.calls (g:Nat) (s0_0:List Int) (s0_1:Int) (s0_2:Int) (a1:Int) (r1:Bool) (r2:Int) (r3:Int) (w0 w:World) (hI:kx w0 w g s0_0 s0_1 s0_2) (hB:Below w0.heap.size w0 w) (h:qjw.f s0_0 s0_1 s0_2 a1=some (r1,r2,r3)) :
  Calls Try.prog 68 #[.pointer (some ⟨g,0,none⟩),.int .i64 a1] w fun e w'=>e=.returned (.bool r1)∧kx w0 w' g s0_0 r2 r3∧Below w0.heap.size w0 w'∧zq w w' g none:=by
 have HI0:=U.mk hI
 have HK:=U.mk (zq.refl w g none)
 have HL:=U.mk hB.size
 clear hI
 have HW0:=U.mk hB.size
 have HB:=U.mk hB
 clear hB
 unfold qjw.f at h
 have H:=h
 clear h
 replace H:=jq8.mp H
 obtain⟨⟨t101,t102,t103⟩,A30,H⟩:=H
 try dsimp only at H
 have A3:=U.mk A30
 clear A30
 simp only[Option.some.injEq,Prod.mk.injEq] at H
 obtain⟨rfl,rfl,rfl⟩:=H
 go_enter Try.func68,Try.ntmps68
 go_wp2_with (first|((with_reducible refine jw (f:=54) rfl ?_);refine goesL_ (some 7) rfl rfl Try.func54 (by kernel_rfl) rfl #[.pointer (some ⟨g,0,none⟩),.int .i64 a1] rfl (by(try simp only[jq0,jq1,jq2]);first|done|rfl|(simp only[jq3,jq4];rfl)) ?_;(with_reducible refine(qjx.calls g s0_0 s0_1 s0_2 a1 t101 t102 t103 w0 _ ?side1 ?side2 A3.out).mono ?_);(case side1=>repeat(first|(with_reducible first|exact HI0.out|apply kx.alloc|apply kx.drewN|apply kx.drew|apply kx.set_1|apply kx.set_2)|exact HI0.out));(case side2=>repeat(first|(with_reducible first|exact HB.out|apply G|apply J|apply qq|refine qk ?_ (kx.ge HI0.out))|exact HB.out));rintro e w4 ⟨rfl,hi,hb,hk⟩;refine⟨_,rfl,?_⟩;replace HK:=U.mk (zq.trans (by solve_by_elim (maxDepth:=20) only[HK.out,zq.set_,zx,jz,jq]) hk (.inl rfl));replace HB:=U.mk (hb);replace HI0:=U.mk (hi);(try clear hb hk hi)))
 go_ret
 exact⟨by first|rfl|(simp[*,jv,jk] <;> rfl),by repeat(first|(with_reducible first|exact HI0.out|apply kx.alloc|apply kx.drewN|apply kx.drew|apply kx.set_1|apply kx.set_2)|exact HI0.out),by repeat(first|(with_reducible first|exact HB.out|apply G|apply J|apply qq|refine qk ?_ (kx.ge HI0.out))|exact HB.out),by repeat(first|(with_reducible first|exact HK.out|apply zq.set_|apply zx|apply jz|apply jq)|exact HK.out)⟩
def qkz.l0:Nat→Int→Int→List Int→Int→Int→Option (Int × Int × Int)
 | 0,_,_,_,_,_=>none
 | k + 1,x3,x4,x1000,x1001,x1002=>if x4 < 8 then((qjj.f x1000 x1001 x1002).bind fun bt101=>(qkz.l0 k (Go.bits .or .i64 (wrap64 (x3 * 256)) bt101.1) (wrap64 (x4 + 1)) x1000 bt101.2.1 bt101.2.2)) else(some (x3,x1001,x1002))
def qkz.f (k:Nat) (s0_0:List Int) (s0_1:Int) (s0_2:Int):Option (Int × Int × Int):=qkz.l0 k 0 0 s0_0 s0_1 s0_2
theorem qkz.calls (k:Nat) (g:Nat) (s0_0:List Int) (s0_1:Int) (s0_2:Int) (r1:Int) (r2:Int) (r3:Int) (w0 w:World) (hI:kx w0 w g s0_0 s0_1 s0_2) (hB:Below w0.heap.size w0 w) (h:qkz.f k s0_0 s0_1 s0_2=some (r1,r2,r3)) :
  Calls Try.prog 126 #[.pointer (some ⟨g,0,none⟩)] w fun e w'=>e=.returned (.int .i64 r1)∧kx w0 w' g s0_0 r2 r3∧Below w0.heap.size w0 w'∧zq w w' g none:=by
 have HI0:=U.mk hI
 have HK:=U.mk (zq.refl w g none)
 have HL:=U.mk hB.size
 clear hI
 have HW0:=U.mk hB.size
 have HB:=U.mk hB
 clear hB
 have H:(qkz.l0 k 0 0 s0_0 s0_1 s0_2)=some (r1,r2,r3):=h
 clear h
 have H':=U.mk H
 clear H
 go_enter Try.func126,Try.ntmps126
 go_wp2
 go_loopg [3,4] k (fun kq v3 v4 w'=>∃ (x3_1:Int) (x4_1:Int) (x1001_1:Int) (x1002_1:Int),v3=.int .i64 x3_1∧v4=.int .i64 x4_1∧U (qkz.l0 kq x3_1 x4_1 s0_0 x1001_1 x1002_1=some (r1,r2,r3))∧U (kq≤k)∧U (kx w0 w' g s0_0 x1001_1 x1002_1)∧U (zq w w' g none)∧U (Below w0.heap.size w0 w'))
 case atStart=>exact⟨(0),(0),(s0_1),(s0_2),(by first|rfl|(simp;done)|(simp[*];done)),(by first|rfl|(simp;done)|(simp[*];done)),H',⟨Nat.le_refl _⟩,⟨by repeat(first|(with_reducible first|exact HI0.out|apply kx.alloc|apply kx.drewN|apply kx.drew|apply kx.set_1|apply kx.set_2)|exact HI0.out)⟩,⟨by repeat(first|(with_reducible first|exact HK.out|apply zq.set_|apply zx|apply jz|apply jq)|exact HK.out)⟩,⟨by repeat(first|(with_reducible first|exact HB.out|apply G|apply J|apply qq|refine qk ?_ (kx.ge HI0.out))|exact HB.out)⟩⟩
 case round =>
  clear H'
  try clear c1
  obtain⟨x3_1,x4_1,x1001_1,x1002_1,rfl,rfl,HA,HK1,HI0,HK,HB⟩:=hrel
  cases gk with
  | zero=>exact absurd HA.out (by simp[qkz.l0])
  | succ k1 =>
   have H:=HA.out
   clear HA
   simp only[qkz.l0] at H
   by_cases c2:x4_1 < 8
   ·rw[if_pos c2] at H
    have c2b0:decide (x4_1 < 8)=true:=decide_eq_true c2
    clear c2
    replace H:=jq8.mp H
    obtain⟨⟨t101,t102,t103⟩,A30,H⟩:=H
    try dsimp only at H
    have A3:=U.mk A30
    clear A30
    have H':=U.mk H
    clear H
    go_wp2_with (first|((with_reducible refine jw (f:=122) rfl ?_);refine goesL_ (some 12) rfl rfl Try.func122 (by kernel_rfl) rfl #[.pointer (some ⟨g,0,none⟩)] rfl (by(try simp only[jq0,jq1,jq2]);first|done|rfl|(simp only[jq3,jq4];rfl)) ?_;(with_reducible refine(qjj.calls g s0_0 x1001_1 x1002_1 t101 t102 t103 w0 _ ?side1 ?side2 A3.out).mono ?_);(case side1=>repeat(first|(with_reducible first|exact HI0.out|apply kx.alloc|apply kx.drewN|apply kx.drew|apply kx.set_1|apply kx.set_2)|exact HI0.out));(case side2=>repeat(first|(with_reducible first|exact HB.out|apply G|apply J|apply qq|refine qk ?_ (kx.ge HI0.out))|exact HB.out));rintro e w4 ⟨rfl,hi,hb,hk⟩;refine⟨_,rfl,?_⟩;replace HK:=U.mk (zq.trans (by solve_by_elim (maxDepth:=20) only[HK.out,zq.set_,zx,jz,jq]) hk (.inl rfl));replace HB:=U.mk (hb);replace HI0:=U.mk (hi);(try clear hb hk hi)))
    go_roundg k1
    case measure=>have:=HK1.out;omega
    case rel=>exact⟨(Go.bits .or .i64 (wrap64 (x3_1 * 256)) t101),(wrap64 (x4_1 + 1)),(t102),(t103),(by first|rfl|(simp;done)|(simp[*];done)),(by first|rfl|(simp;done)|(simp[*];done)),H',⟨by have:=HK1.out;omega⟩,⟨by repeat(first|(with_reducible first|exact HI0.out|apply kx.alloc|apply kx.drewN|apply kx.drew|apply kx.set_1|apply kx.set_2)|exact HI0.out)⟩,⟨by repeat(first|(with_reducible first|exact HK.out|apply zq.set_|apply zx|apply jz|apply jq)|exact HK.out)⟩,⟨by repeat(first|(with_reducible first|exact HB.out|apply G|apply J|apply qq|refine qk ?_ (kx.ge HI0.out))|exact HB.out)⟩⟩
   ·rw[if_neg c2] at H
    have c2b0:decide (x4_1 < 8)=false:=decide_eq_false c2
    clear c2
    simp only[Option.some.injEq,Prod.mk.injEq] at H
    obtain⟨rfl,rfl,rfl⟩:=H
    go_wp2
    go_ret
    exact⟨by first|rfl|(simp[*,jv,jk] <;> rfl),by repeat(first|(with_reducible first|exact HI0.out|apply kx.alloc|apply kx.drewN|apply kx.drew|apply kx.set_1|apply kx.set_2)|exact HI0.out),by repeat(first|(with_reducible first|exact HB.out|apply G|apply J|apply qq|refine qk ?_ (kx.ge HI0.out))|exact HB.out),by repeat(first|(with_reducible first|exact HK.out|apply zq.set_|apply zx|apply jz|apply jq)|exact HK.out)⟩
def qkq.l0:Nat→List Int→Int→List Int→Int→Int→Option (ByteArray × Int × Int)
 | 0,_,_,_,_,_=>none
 | k + 1,x3,x4,x1000,x1001,x1002=>if x4 > 0 then((qjx.f x1000 x1001 x1002 18).bind fun bt104=>(if 0≤bt104.1 then(if bt104.1 < 19 then(if x3.length < 140737488355328 then(qkq.l0 k (x3 ++ [bt (⟨#[97,98,42,92,34,44,58,32,91,93,123,125,64,49,46,47,120,126,32]⟩ : ByteArray) bt104.1]) (wrap64 (x4 - 1)) x1000 bt104.2.1 bt104.2.2) else(none)) else(none)) else(none))) else(some (strOfNums x3,x1001,x1002))
def qkq.f (k:Nat) (s0_0:List Int) (s0_1:Int) (s0_2:Int):Option (ByteArray × Int × Int):=(qjx.f s0_0 s0_1 s0_2 6).bind fun bt101=>(qkq.l0 k ([]:List Int) bt101.1 s0_0 bt101.2.1 bt101.2.2)
theorem qkq.calls (k:Nat) (g:Nat) (s0_0:List Int) (s0_1:Int) (s0_2:Int) (r1:ByteArray) (r2:Int) (r3:Int) (w0 w:World) (hI:kx w0 w g s0_0 s0_1 s0_2) (hB:Below w0.heap.size w0 w) (h:qkq.f k s0_0 s0_1 s0_2=some (r1,r2,r3)) :
  Calls Try.prog 127 #[.pointer (some ⟨g,0,none⟩)] w fun e w'=>e=.returned (.string r1)∧kx w0 w' g s0_0 r2 r3∧Below w0.heap.size w0 w'∧zq w w' g none:=by
 have HI0:=U.mk hI
 have HK:=U.mk (zq.refl w g none)
 have HL:=U.mk hB.size
 clear hI
 have HW0:=U.mk hB.size
 have HB:=U.mk hB
 clear hB
 unfold qkq.f at h
 have H:=h
 clear h
 replace H:=jq8.mp H
 obtain⟨⟨t101,t102,t103⟩,A20,H⟩:=H
 try dsimp only at H
 have A2:=U.mk A20
 clear A20
 have H':=U.mk H
 clear H
 go_enter Try.func127,Try.ntmps127
 go_wp2_with (first|((with_reducible refine jw (f:=54) rfl ?_);refine goesL_ (some 6) rfl rfl Try.func54 (by kernel_rfl) rfl #[.pointer (some ⟨g,0,none⟩),.int .i64 6] rfl (by(try simp only[jq0,jq1,jq2]);first|done|rfl|(simp only[jq3,jq4];rfl)) ?_;(with_reducible refine(qjx.calls g s0_0 s0_1 s0_2 6 t101 t102 t103 w0 _ ?side1 ?side2 A2.out).mono ?_);(case side1=>repeat(first|(with_reducible first|exact HI0.out|apply kx.alloc|apply kx.drewN|apply kx.drew|apply kx.set_1|apply kx.set_2)|exact HI0.out));(case side2=>repeat(first|(with_reducible first|exact HB.out|apply G|apply J|apply qq|refine qk ?_ (kx.ge HI0.out))|exact HB.out));rintro e w3 ⟨rfl,hi,hb,hk⟩;refine⟨_,rfl,?_⟩;replace HK:=U.mk (zq.trans (by solve_by_elim (maxDepth:=20) only[HK.out,zq.set_,zx,jz,jq]) hk (.inl rfl));replace HB:=U.mk (hb);replace HI0:=U.mk (hi);(try clear hb hk hi)))
 go_loopg [3,4] k (fun kq v3 v4 w'=>∃ (x3_1:List Int) (x4_1:Int) (x1001_1:Int) (x1002_1:Int),v4=.int .i64 x4_1∧U (qkq.l0 kq x3_1 x4_1 s0_0 x1001_1 x1002_1=some (r1,r2,r3))∧U (kq≤k)∧U (Kd.R (Kd.int .u8) 5 w' w.heap.size (fun _=>True) v3 x3_1)∧U (kx w0 w' g s0_0 x1001_1 x1002_1)∧U (zq w w' g none)∧U (Below w0.heap.size w0 w'))
 case atStart=>exact⟨(([]:List Int)),(t101),(t102),(t103),(by first|rfl|(simp;done)|(simp[*];done)),H',⟨Nat.le_refl _⟩,⟨by first|exact Kd.R_nil _ _ _ _ _|exact Kd.N_nil _ _ _ _ _|exact Kd.V_nil _ _ _ _ _|exact Kd.Q_nil _ _ _ _ _|exact Kd.S_nil _ _ _ _ _⟩,⟨by repeat(first|(with_reducible first|exact HI0.out|apply kx.alloc|apply kx.drewN|apply kx.drew|apply kx.set_1|apply kx.set_2)|exact HI0.out)⟩,⟨by repeat(first|(with_reducible first|exact HK.out|apply zq.set_|apply zx|apply jz|apply jq)|exact HK.out)⟩,⟨by repeat(first|(with_reducible first|exact HB.out|apply G|apply J|apply qq|refine qk ?_ (kx.ge HI0.out))|exact HB.out)⟩⟩
 case round =>
  clear H'
  try clear c1
  try clear p2
  obtain⟨x3_1,x4_1,x1001_1,x1002_1,rfl,HA,HK1,HO_3,HI0,HK,HB⟩:=hrel
  cases gk with
  | zero=>exact absurd HA.out (by simp[qkq.l0])
  | succ k1 =>
   have H:=HA.out
   clear HA
   simp only[qkq.l0] at H
   by_cases c4:x4_1 > 0
   ·rw[if_pos c4] at H
    have c4b0:decide (0 < x4_1)=true:=decide_eq_true c4
    clear c4
    replace H:=jq8.mp H
    obtain⟨⟨t104,t105,t106⟩,A50,H⟩:=H
    try dsimp only at H
    have A5:=U.mk A50
    clear A50
    by_cases c6 : 0≤t104
    ·rw[if_pos c6] at H
     have c6b0:decide (0≤t104)=true:=decide_eq_true c6
     clear c6
     by_cases c7:t104 < 19
     ·rw[if_pos c7] at H
      have c7b0:decide (t104 < 19)=true:=decide_eq_true c7
      clear c7
      by_cases c9:x3_1.length < 140737488355328
      ·rw[if_pos c9] at H
       have LMc9:=U.mk c9
       clear c9
       obtain⟨y107,hy107⟩ : ∃ y_:List Int,y_=(x3_1 ++ [bt (⟨#[97,98,42,92,34,44,58,32,91,93,123,125,64,49,46,47,120,126,32]⟩ : ByteArray) t104]):=⟨_,rfl⟩
       replace H:(qkq.l0 k1 y107 (wrap64 (x4_1 - 1)) s0_0 t105 t106)=some (r1,r2,r3):=by first|(rw[hy107];with_reducible exact H)|(have H2_:=(Option.bind_some _ _).symm.trans H;rw[hy107];with_reducible exact H2_)|(have H2_:=(Option.bind_some _ _).symm.trans H;with_reducible exact H2_)|with_reducible exact H|(rw[hy107];exact H)|exact H
       have Ny107:=U.mk hy107
       clear hy107
       have H':=U.mk H
       clear H
       go_wp2_with (first|((with_reducible refine jw (f:=54) rfl ?_);refine goesL_ (some 13) rfl rfl Try.func54 (by kernel_rfl) rfl #[.pointer (some ⟨g,0,none⟩),.int .i64 18] rfl (by(try simp only[jq0,jq1,jq2]);first|done|rfl|(simp only[jq3,jq4];rfl)) ?_;(with_reducible refine(qjx.calls g s0_0 x1001_1 x1002_1 18 t104 t105 t106 w0 _ ?side1 ?side2 A5.out).mono ?_);(case side1=>repeat(first|(with_reducible first|exact HI0.out|apply kx.alloc|apply kx.drewN|apply kx.drew|apply kx.set_1|apply kx.set_2)|exact HI0.out));(case side2=>repeat(first|(with_reducible first|exact HB.out|apply G|apply J|apply qq|refine qk ?_ (kx.ge HI0.out))|exact HB.out));rintro e w10 ⟨rfl,hi,hb,hk⟩;refine⟨_,rfl,?_⟩;replace HO_3:=U.mk (Kd.R_mono (Kd.R_keep (kx.apart (show kx w0 _ g s0_0 x1001_1 x1002_1 from by repeat(first|(with_reducible first|exact HI0.out|apply kx.alloc|apply kx.drewN|apply kx.drew|apply kx.set_1|apply kx.set_2)|exact HI0.out)) (by solve_by_elim only[HO_3.out,Kd.zv,Kd.zk,Kd.zw]) (by decide)) hk (fun _ h=>h.2)) (fun _ h=>h.1));replace HK:=U.mk (zq.trans (by solve_by_elim (maxDepth:=20) only[HK.out,zq.set_,zx,jz,jq]) hk (.inl rfl));replace HB:=U.mk (hb);replace HI0:=U.mk (hi);(try clear hb hk hi);have p8 : 0≤(t104:Int):=of_decide_eq_true (by assumption);have q8:t104 < (19:Int):=of_decide_eq_true (by assumption);have hx8:=bt_at (⟨#[97,98,42,92,34,44,58,32,91,93,123,125,64,49,46,47,120,126,32]⟩ : ByteArray) t104;replace p8:=eq_true p8;replace q8:=eq_true q8)|((with_reducible refine gate_builtin (b:=.append) (xs:=#[.tmp 11,.tmp 15]) rfl ?_);at_builtin;refine Kd.R_append (Kd.int .u8) w.heap.size rfl (.tmp 11) (.tmp 15) 22 5 (.int .u8 0) 1 rfl Try.underlying22 info5 rfl (by decide) (by omega) u3 x3_1 (bt (⟨#[97,98,42,92,34,44,58,32,91,93,123,125,64,49,46,47,120,126,32]⟩ : ByteArray) t104) [.int .u8 (bt (⟨#[97,98,42,92,34,44,58,32,91,93,123,125,64,49,46,47,120,126,32]⟩ : ByteArray) t104)] (fun _=>True) (fun _=>False) rfl rfl ?aP (fun _ hk=>hk.elim) ?aF ?aO (Below.refl _ _) ?aS ?aL ?_;(case aP=>exact rfl);(case aF=>exact(fun _ _=>trivial));(case aO=>exact(by solve_by_elim only[HO_3.out,Kd.zv,Kd.zk,Kd.zw]));(case aS=>exact(keep_size (w:=w) (g:=g) (row:=none) (by solve_by_elim (maxDepth:=20) only[HK.out,zq.set_,zx,jz,jq])));(case aL=>have:=LMc9.out;omega);intro v108 w11 ho hb hg hat;rw[← Ny107.out] at ho;replace HB:=U.mk (below_weaken (by solve_by_elim (maxDepth:=20) only[HB.out,G,J,qq,qk,(kx.ge HI0.out)]) HL.out hb);replace HI0:=U.mk (kx.grown (by solve_by_elim (maxDepth:=20) only[HI0.out,kx.alloc,kx.drewN,kx.drew,kx.set_1,kx.set_2]) hg (kx.own_ne HI0.out HO_3.out (by decide)));replace HK:=U.mk (zq.trans (by solve_by_elim (maxDepth:=20) only[HK.out,zq.set_,zx,jz,jq]) (zq.of_grown hg g) (Kd.R_base2 HO_3.out));have HO109:=U.mk (ho);clear HO_3;clear ho hb hg hat))
       go_roundg k1
       case measure=>have:=HK1.out;omega
       case rel=>exact⟨(y107),(wrap64 (x4_1 - 1)),(t105),(t106),(by first|rfl|(simp;done)|(simp[*];done)),H',⟨by have:=HK1.out;omega⟩,⟨by(with_reducible repeat(first|apply Kd.zv|apply Kd.zk|apply Kd.zw));exact HO109.out⟩,⟨by repeat(first|(with_reducible first|exact HI0.out|apply kx.alloc|apply kx.drewN|apply kx.drew|apply kx.set_1|apply kx.set_2)|exact HI0.out)⟩,⟨by repeat(first|(with_reducible first|exact HK.out|apply zq.set_|apply zx|apply jz|apply jq)|exact HK.out)⟩,⟨by repeat(first|(with_reducible first|exact HB.out|apply G|apply J|apply qq|refine qk ?_ (kx.ge HI0.out))|exact HB.out)⟩⟩
      ·rw[if_neg c9] at H
       exact absurd H (by simp)
     ·rw[if_neg c7] at H
      exact absurd H (by simp)
    ·rw[if_neg c6] at H
     exact absurd H (by simp)
   ·rw[if_neg c4] at H
    have c4b0:decide (0 < x4_1)=false:=decide_eq_false c4
    clear c4
    simp only[Option.some.injEq,Prod.mk.injEq] at H
    obtain⟨rfl,rfl,rfl⟩:=H
    have hcv12:=own_string (P:=Try.prog) Try.underlying22 Try.underlying5 Try.underlying9 (Kd.own_of_R HO_3.out)
    go_wp2
    go_ret
    exact⟨by first|rfl|(simp[*,jv,jk] <;> rfl),by repeat(first|(with_reducible first|exact HI0.out|apply kx.alloc|apply kx.drewN|apply kx.drew|apply kx.set_1|apply kx.set_2)|exact HI0.out),by repeat(first|(with_reducible first|exact HB.out|apply G|apply J|apply qq|refine qk ?_ (kx.ge HI0.out))|exact HB.out),by repeat(first|(with_reducible first|exact HK.out|apply zq.set_|apply zx|apply jz|apply jq)|exact HK.out)⟩
def qjv.f (s0_0:List Int) (s0_1:Int) (s0_2:Int) (l1:List ByteArray):Option (ByteArray × Int × Int):=(qjx.f s0_0 s0_1 s0_2 (l1.length:Int)).bind fun bt101=>(if 0≤bt101.1 then(if bt101.1 < (l1.length:Int) then(some (rdOf ByteArray.empty l1 bt101.1,bt101.2.1,bt101.2.2)) else(none)) else(none))
theorem qjv.calls (g:Nat) (s0_0:List Int) (s0_1:Int) (s0_2:Int) (A1:Option Addr) (c1:Nat) (l1:List ByteArray) (r1:ByteArray) (r2:Int) (r3:Int) (w0 w:World) (hI:kx w0 w g s0_0 s0_1 s0_2) (hB:Below w0.heap.size w0 w) (hr1:Kd.C Kd.string w A1 l1.length l1) (hc1:l1.length≤c1) (hf1:∀ ad,A1=some ad→0 < l1.length→ad.block≠g) (h:qjv.f s0_0 s0_1 s0_2 l1=some (r1,r2,r3)) :
  Calls Try.prog 55 #[.pointer (some ⟨g,0,none⟩),.slice A1 l1.length c1] w fun e w'=>e=.returned (.string r1)∧kx w0 w' g s0_0 r2 r3∧Below w0.heap.size w0 w'∧zq w w' g none:=by
 have HR1:=U.mk hr1
 have HC1:=U.mk hc1
 clear hr1 hc1
 have HI0:=U.mk hI
 have HK:=U.mk (zq.refl w g none)
 have HL:=U.mk hB.size
 clear hI
 have HW0:=U.mk hB.size
 have HB:=U.mk hB
 clear hB
 unfold qjv.f at h
 have H:=h
 clear h
 replace H:=jq8.mp H
 obtain⟨⟨t101,t102,t103⟩,A30,H⟩:=H
 try dsimp only at H
 have A3:=U.mk A30
 clear A30
 by_cases c4 : 0≤t101
 ·rw[if_pos c4] at H
  have c4b0:decide (0≤t101)=true:=decide_eq_true c4
  clear c4
  by_cases c5:t101 < (l1.length:Int)
  ·rw[if_pos c5] at H
   have c5b0:decide (t101 < (l1.length:Int))=true:=decide_eq_true c5
   clear c5
   simp only[Option.some.injEq,Prod.mk.injEq] at H
   obtain⟨rfl,rfl,rfl⟩:=H
   go_enter Try.func55,Try.ntmps55
   go_wp2_with (first|((with_reducible refine jw (f:=54) rfl ?_);refine goesL_ (some 9) rfl rfl Try.func54 (by kernel_rfl) rfl #[.pointer (some ⟨g,0,none⟩),.int .i64 (l1.length:Int)] rfl (by(try simp only[jq0,jq1,jq2]);first|done|rfl|(simp only[jq3,jq4];rfl)) ?_;(with_reducible refine(qjx.calls g s0_0 s0_1 s0_2 (l1.length:Int) t101 t102 t103 w0 _ ?side1 ?side2 A3.out).mono ?_);(case side1=>repeat(first|(with_reducible first|exact HI0.out|apply kx.alloc|apply kx.drewN|apply kx.drew|apply kx.set_1|apply kx.set_2)|exact HI0.out));(case side2=>repeat(first|(with_reducible first|exact HB.out|apply G|apply J|apply qq|refine qk ?_ (kx.ge HI0.out))|exact HB.out));rintro e w6 ⟨rfl,hi,hb,hk⟩;refine⟨_,rfl,?_⟩;replace HK:=U.mk (zq.trans (by solve_by_elim (maxDepth:=20) only[HK.out,zq.set_,zx,jz,jq]) hk (.inl rfl));replace HB:=U.mk (hb);replace HI0:=U.mk (hi);(try clear hb hk hi);have p104 : 0≤(t101:Int):=of_decide_eq_true (by assumption);have q104:t101 < (l1.length:Int):=of_decide_eq_true (by assumption);obtain⟨ad104,e104,hx104_0⟩:=Kd.at_string HR1.out t101 p104 q104;cases e104;replace hx104_0:=keep_cell HK.out hx104_0 (by first|(rw[add_block];exact hf1 _ rfl (by omega))|exact hf1 _ rfl (by omega)|exact hf1 ad104 rfl (by omega));replace p104:=eq_true p104;replace q104:=eq_true q104))
   go_ret
   exact⟨by first|rfl|(simp[*,jv,jk] <;> rfl),by repeat(first|(with_reducible first|exact HI0.out|apply kx.alloc|apply kx.drewN|apply kx.drew|apply kx.set_1|apply kx.set_2)|exact HI0.out),by repeat(first|(with_reducible first|exact HB.out|apply G|apply J|apply qq|refine qk ?_ (kx.ge HI0.out))|exact HB.out),by repeat(first|(with_reducible first|exact HK.out|apply zq.set_|apply zx|apply jz|apply jq)|exact HK.out)⟩
  ·rw[if_neg c5] at H
   exact absurd H (by simp)
 ·rw[if_neg c4] at H
  exact absurd H (by simp)
def qkv.l0:Nat→Int→Int→Int→Option (Int)
 | 0,_,_,_=>none
 | k + 1,x0,x3,x4=>if x4 < x0 then(qkv.l0 k x0 (wrap64 (x3 * 2)) (wrap64 (x4 + 1))) else(some x3)
def qkv.f (k:Nat) (a0:Int):Option (Int):=qkv.l0 k a0 1 0
theorem qkv.calls (k:Nat) (a0:Int) (r:Int) (w:World) (h:qkv.f k a0=some r) :
  Calls Try.prog 74 #[.int .i64 a0] w fun e w'=>e=.returned (.int .i64 r)∧Drawn0 w w':=by
 have H:(qkv.l0 k a0 1 0)=some r:=h
 clear h
 have H':=U.mk H
 clear H
 go_enter Try.func74,Try.ntmps74
 go_wp2
 go_loopg [3,4] k (fun kq v3 v4 w'=>∃ (x3_1:Int) (x4_1:Int),v3=.int .i64 x3_1∧v4=.int .i64 x4_1∧U (qkv.l0 kq a0 x3_1 x4_1=some r)∧U (kq≤k)∧Drawn0 w w')
 case atStart=>exact⟨(1),(0),(by first|rfl|(simp;done)|(simp[*];done)),(by first|rfl|(simp;done)|(simp[*];done)),H',⟨Nat.le_refl _⟩,by repeat(first|exact Drawn0.refl _|apply Drawn0.step)⟩
 case round =>
  clear H'
  obtain⟨x3_1,x4_1,rfl,rfl,HA,HK1,⟨m1,rfl⟩⟩:=hrel
  cases gk with
  | zero=>exact absurd HA.out (by simp[qkv.l0])
  | succ k1 =>
   have H:=HA.out
   clear HA
   simp only[qkv.l0] at H
   by_cases c2:x4_1 < a0
   ·rw[if_pos c2] at H
    have c2b0:decide (x4_1 < a0)=true:=decide_eq_true c2
    clear c2
    have H':=U.mk H
    clear H
    go_wp2
    go_roundg k1
    case measure=>have:=HK1.out;omega
    case rel=>exact⟨(wrap64 (x3_1 * 2)),(wrap64 (x4_1 + 1)),(by first|rfl|(simp;done)|(simp[*];done)),(by first|rfl|(simp;done)|(simp[*];done)),H',⟨by have:=HK1.out;omega⟩,by repeat(first|exact Drawn0.refl _|apply Drawn0.step)⟩
   ·rw[if_neg c2] at H
    have c2b0:decide (x4_1 < a0)=false:=decide_eq_false c2
    clear c2
    obtain rfl:=Option.some.inj H
    go_wp2
    go_ret
    exact⟨by first|rfl|(simp;done)|(simp[*];done),by repeat(first|exact Drawn0.refl _|apply Drawn0.step)⟩
def qjz.f (k:Nat) (s0_0:List Int) (s0_1:Int) (s0_2:Int):Option (Int × Int × ByteArray × ByteArray × Int × Int):=(some (([0,8,16,24,31,32]:List Int):List Int)).bind fun y102=>((qjx.f s0_0 s0_1 s0_2 6).bind fun bt105=>(if 0≤bt105.1 then(if bt105.1 < (y102.length:Int) then((some (([10,10,192,255]:List Int):List Int)).bind fun y109=>((qjx.f s0_0 bt105.2.1 bt105.2.2 4).bind fun bt112=>(if 0≤bt112.1 then(if bt112.1 < (y109.length:Int) then((qjx.f s0_0 bt112.2.1 bt112.2.2 3).bind fun bt116=>((qjx.f s0_0 bt116.2.1 bt116.2.2 2).bind fun bt119=>((qjx.f s0_0 bt119.2.1 bt119.2.2 4).bind fun bt122=>((qkv.f k (wrap64 (32 - (rd y102 bt105.1)))).bind fun t125=>(if t125=0 then(none) else(some (6,wrap64 ((wrap64 ((wrap64 ((wrap64 (Int.tdiv (wrap64 ((wrap64 ((wrap64 ((wrap64 ((rd y109 bt112.1) * 16777216)) + (wrap64 (bt116.1 * 65536)))) + (wrap64 (bt119.1 * 256)))) + bt122.1)) t125)) * t125)) * 64)) + (rd y102 bt105.1)),(⟨#[]⟩ : ByteArray),(⟨#[]⟩ : ByteArray),bt122.2.1,bt122.2.2))))))) else(none)) else(none)))) else(none)) else(none)))
def qjz.T2:Bool × List (List Nat × List Nat):=(true,[([],[]),([],[]),([1],[1]),([0,2],[0,2]),([3],[3]),([4],[4]),([],[]),([6,2],[6]),([7],[7]),([5,8],[5,8]),([],[]),([10,7],[10]),([11],[11]),([9,12],[9,12]),([],[]),([14,11],[14]),([13,15],[13,15]),([16,15,0,1,2,3,4,5,6,7,8,9,10,11,12,13,14,15,16],[16])])
def qjz.B2:List Nat:=[0,0,2,7,15,31,0,70,198,511,0,1222,3270,8191,0,19654,65535,131071]
theorem qjz.tab2:rtab .any (opsOf Try.f67 2)=qjz.T2:=by kernel_rfl
theorem qjz.bits2:waitsOk qjz.T2.2 qjz.B2=true:=by kernel_rfl
theorem qjz.calls (k:Nat) (g:Nat) (s0_0:List Int) (s0_1:Int) (s0_2:Int) (r1:Int) (r2:Int) (r3:ByteArray) (r4:ByteArray) (r5:Int) (r6:Int) (w0 w:World) (hI:kx w0 w g s0_0 s0_1 s0_2) (hB:Below w0.heap.size w0 w) (h:qjz.f k s0_0 s0_1 s0_2=some (r1,r2,r3,r4,r5,r6)) :
  Calls Try.prog 67 #[.pointer (some ⟨g,0,none⟩)] w fun e w'=>e=.returned (.agg #[.int .i64 r1,.int .i64 r2,.string r3,.string r4])∧kx w0 w' g s0_0 r5 r6∧Below w0.heap.size w0 w'∧zq w w' g none:=by
 have hu34:=Try.underlying34
 have HI0:=U.mk hI
 have HK:=U.mk (zq.refl w g none)
 have HL:=U.mk hB.size
 clear hI
 have HW0:=U.mk hB.size
 have HB:=U.mk hB
 clear hB
 unfold qjz.f at h
 have H:=h
 clear h
 obtain⟨y102,hy102⟩ : ∃ y_:List Int,y_=(([0,8,16,24,31,32]:List Int)):=⟨_,rfl⟩
 replace H:((qjx.f s0_0 s0_1 s0_2 6).bind fun bt105=>(if 0≤bt105.1 then(if bt105.1 < (y102.length:Int) then((some (([10,10,192,255]:List Int):List Int)).bind fun y109=>((qjx.f s0_0 bt105.2.1 bt105.2.2 4).bind fun bt112=>(if 0≤bt112.1 then(if bt112.1 < (y109.length:Int) then((qjx.f s0_0 bt112.2.1 bt112.2.2 3).bind fun bt116=>((qjx.f s0_0 bt116.2.1 bt116.2.2 2).bind fun bt119=>((qjx.f s0_0 bt119.2.1 bt119.2.2 4).bind fun bt122=>((qkv.f k (wrap64 (32 - (rd y102 bt105.1)))).bind fun t125=>(if t125=0 then(none) else(some (6,wrap64 ((wrap64 ((wrap64 ((wrap64 (Int.tdiv (wrap64 ((wrap64 ((wrap64 ((wrap64 ((rd y109 bt112.1) * 16777216)) + (wrap64 (bt116.1 * 65536)))) + (wrap64 (bt119.1 * 256)))) + bt122.1)) t125)) * t125)) * 64)) + (rd y102 bt105.1)),(⟨#[]⟩ : ByteArray),(⟨#[]⟩ : ByteArray),bt122.2.1,bt122.2.2))))))) else(none)) else(none)))) else(none)) else(none)))=some (r1,r2,r3,r4,r5,r6):=by first|(rw[hy102];with_reducible exact H)|(have H2_:=(Option.bind_some _ _).symm.trans H;rw[hy102];with_reducible exact H2_)|(have H2_:=(Option.bind_some _ _).symm.trans H;with_reducible exact H2_)|with_reducible exact H|(rw[hy102];exact H)|exact H
 have Ny102:=U.mk hy102
 clear hy102
 replace H:=jq8.mp H
 obtain⟨⟨t105,t106,t107⟩,A20,H⟩:=H
 try dsimp only at H
 have A2:=U.mk A20
 clear A20
 by_cases c3 : 0≤t105
 ·rw[if_pos c3] at H
  have c3b0:decide (0≤t105)=true:=decide_eq_true c3
  clear c3
  by_cases c4:t105 < (y102.length:Int)
  ·rw[if_pos c4] at H
   have c4b0:decide (t105 < (y102.length:Int))=true:=decide_eq_true c4
   clear c4
   obtain⟨y109,hy109⟩ : ∃ y_:List Int,y_=(([10,10,192,255]:List Int)):=⟨_,rfl⟩
   replace H:((qjx.f s0_0 t106 t107 4).bind fun bt112=>(if 0≤bt112.1 then(if bt112.1 < (y109.length:Int) then((qjx.f s0_0 bt112.2.1 bt112.2.2 3).bind fun bt116=>((qjx.f s0_0 bt116.2.1 bt116.2.2 2).bind fun bt119=>((qjx.f s0_0 bt119.2.1 bt119.2.2 4).bind fun bt122=>((qkv.f k (wrap64 (32 - (rd y102 t105)))).bind fun t125=>(if t125=0 then(none) else(some (6,wrap64 ((wrap64 ((wrap64 ((wrap64 (Int.tdiv (wrap64 ((wrap64 ((wrap64 ((wrap64 ((rd y109 bt112.1) * 16777216)) + (wrap64 (bt116.1 * 65536)))) + (wrap64 (bt119.1 * 256)))) + bt122.1)) t125)) * t125)) * 64)) + (rd y102 t105)),(⟨#[]⟩ : ByteArray),(⟨#[]⟩ : ByteArray),bt122.2.1,bt122.2.2))))))) else(none)) else(none)))=some (r1,r2,r3,r4,r5,r6):=by first|(rw[hy109];with_reducible exact H)|(have H2_:=(Option.bind_some _ _).symm.trans H;rw[hy109];with_reducible exact H2_)|(have H2_:=(Option.bind_some _ _).symm.trans H;with_reducible exact H2_)|with_reducible exact H|(rw[hy109];exact H)|exact H
   have Ny109:=U.mk hy109
   clear hy109
   replace H:=jq8.mp H
   obtain⟨⟨t112,t113,t114⟩,A50,H⟩:=H
   try dsimp only at H
   have A5:=U.mk A50
   clear A50
   by_cases c6 : 0≤t112
   ·rw[if_pos c6] at H
    have c6b0:decide (0≤t112)=true:=decide_eq_true c6
    clear c6
    by_cases c7:t112 < (y109.length:Int)
    ·rw[if_pos c7] at H
     have c7b0:decide (t112 < (y109.length:Int))=true:=decide_eq_true c7
     clear c7
     replace H:=jq8.mp H
     obtain⟨⟨t116,t117,t118⟩,A80,H⟩:=H
     try dsimp only at H
     have A8:=U.mk A80
     clear A80
     replace H:=jq8.mp H
     obtain⟨⟨t119,t120,t121⟩,A90,H⟩:=H
     try dsimp only at H
     have A9:=U.mk A90
     clear A90
     replace H:=jq8.mp H
     obtain⟨⟨t122,t123,t124⟩,A100,H⟩:=H
     try dsimp only at H
     have A10:=U.mk A100
     clear A100
     replace H:=jq8.mp H
     obtain⟨t125,A110,H⟩:=H
     try dsimp only at H
     have A11:=U.mk A110
     clear A110
     by_cases c12:t125=0
     ·rw[if_pos c12] at H
      exact absurd H (by simp)
     ·rw[if_neg c12] at H
      have c12b0:(t125 == 0)=false:=beq_eq_false_iff_ne.mpr c12
      have c12b1:(t125 != 0)=true:=bne_iff_ne.mpr c12
      simp only[Option.some.injEq,Prod.mk.injEq] at H
      obtain⟨rfl,rfl,rfl,rfl,rfl,rfl⟩:=H
      go_enter Try.func67,Try.ntmps67
      try go_wp2_with (first|((with_reducible refine gate_dst (N:=2) rfl ?_);refine box_event ?hg (N:=2) ?hd (cs:=#[.int .i64 0,.int .i64 0,.string (⟨#[]⟩ : ByteArray),.string (⟨#[]⟩ : ByteArray)]) (t:=34) ?hr ?_;(case hd=>rfl);(case hg=>rfl);(case hr=>first|(go_simp;done)|(go_simp;rfl));intro gb101 hg w13 hbox hb;replace HB:=U.mk (zz (by solve_by_elim (maxDepth:=20) only[HB.out,G,J,qq,qk,(kx.ge HI0.out)]) hb);have BK101:=U.mk (hbox);have GW101:=U.mk ((by rw[hg];exact(keep_size (w:=w) (g:=g) (row:=none) (by solve_by_elim (maxDepth:=20) only[HK.out,zq.set_,zx,jz,jq])):w.heap.size≤gb101));have GE101:=U.mk ((Nat.le_trans HW0.out (by rw[hg];exact(keep_size (w:=w) (g:=g) (row:=none) (by solve_by_elim (maxDepth:=20) only[HK.out,zq.set_,zx,jz,jq])):w.heap.size≤gb101):w0.heap.size≤gb101));replace HK:=U.mk (zq.trans (by solve_by_elim (maxDepth:=20) only[HK.out,zq.set_,zx,jz,jq]) (zq.of_below hb g none) (.inl rfl));have NB0_101:=U.mk ((by rw[hg];exact Nat.ne_of_lt (kx.lt (show kx w0 _ g s0_0 s0_1 s0_2 from by repeat(first|(with_reducible first|exact HI0.out|apply kx.alloc|apply kx.drewN|apply kx.drew|apply kx.set_1|apply kx.set_2)|exact HI0.out))):g≠gb101));have NB101_0:=U.mk ((by rw[hg];exact Nat.ne_of_gt (kx.lt (show kx w0 _ g s0_0 s0_1 s0_2 from by repeat(first|(with_reducible first|exact HI0.out|apply kx.alloc|apply kx.drewN|apply kx.drew|apply kx.set_1|apply kx.set_2)|exact HI0.out))):gb101≠g));replace HI0:=U.mk (kx.below (by solve_by_elim (maxDepth:=20) only[HI0.out,kx.alloc,kx.drewN,kx.drew,kx.set_1,kx.set_2]) hb);clear hb hbox hg)|((with_reducible refine gate_dst (N:=6) rfl ?_);refine Kd.R_lit (Kd.int .i64) _ 3 ?hg (N:=6) ?hd (xs:=([0,8,16,24,31,32]:List Int)) (inner:=[.int .i64 0,.int .i64 8,.int .i64 16,.int .i64 24,.int .i64 31,.int .i64 32]) (ok:=fun _=>True) (okp:=fun _=>True) ?hr ?hp (fun _ hk=>by first|exact hk|trivial|(simp_all;done)|grind) trivial (Below.refl _ _) (Nat.le_refl _) (by simp) ?_;(case hd=>rfl);(case hg=>rfl);(case hr=>first|(go_simp;done)|(go_simp;rfl));(case hp=>exact(Reps.one (show Kd.M (Kd.int .i64) _ _ _ 0 [.int .i64 0] from rfl) (Reps.one (show Kd.M (Kd.int .i64) _ _ _ 8 [.int .i64 8] from rfl) (Reps.one (show Kd.M (Kd.int .i64) _ _ _ 16 [.int .i64 16] from rfl) (Reps.one (show Kd.M (Kd.int .i64) _ _ _ 24 [.int .i64 24] from rfl) (Reps.one (show Kd.M (Kd.int .i64) _ _ _ 31 [.int .i64 31] from rfl) (Reps.one (show Kd.M (Kd.int .i64) _ _ _ 32 [.int .i64 32] from rfl) (Reps.none _ _))))))));intro v103 w14 ho15 hb hg_ hnew_;clear hg_ hnew_;(first|rw[← Ny102.out] at ho15|(simp only[Int.reduceToNat] at ho15;rw[← Ny102.out] at ho15));have HO104:=U.mk (Kd.R_lower ho15 (keep_size (w:=w) (g:=g) (row:=none) (by solve_by_elim (maxDepth:=20) only[HK.out,zq.set_,zx,jz,jq,jj,GW101.out])));replace BK101:=U.mk (kv (g:=gb101) (o:=.cells #[.int .i64 0,.int .i64 0,.string (⟨#[]⟩ : ByteArray),.string (⟨#[]⟩ : ByteArray)] 34 (0,0)) (by solve_by_elim only[BK101.out,qw,qx,qv]) hb);replace HK:=U.mk (zq.trans (by solve_by_elim (maxDepth:=20) only[HK.out,zq.set_,zx,jz,jq,jj,GW101.out]) (zq.of_below hb g none) (.inl rfl));replace HB:=U.mk (zz (by solve_by_elim (maxDepth:=20) only[HB.out,G,J,qq,qk,(kx.ge HI0.out),qk,GE101.out]) hb);replace HI0:=U.mk (kx.below (by solve_by_elim (maxDepth:=20) only[HI0.out,kx.alloc,kx.drewN,kx.drew,kx.set_1,kx.set_2,kx.far,NB0_101.out]) hb);clear hb ho15)|((with_reducible refine jw (f:=54) rfl ?_);refine goesL_ (some 8) rfl rfl Try.func54 (by kernel_rfl) rfl #[.pointer (some ⟨g,0,none⟩),.int .i64 6] rfl (by(try simp only[jq0,jq1,jq2]);first|done|rfl|(simp only[jq3,jq4];rfl)) ?_;(with_reducible refine(qjx.calls g s0_0 s0_1 s0_2 6 t105 t106 t107 w0 _ ?side1 ?side2 A2.out).mono ?_);(case side1=>repeat(first|(with_reducible first|exact HI0.out|apply kx.alloc|apply kx.drewN|apply kx.drew|apply kx.set_1|apply kx.set_2|refine kx.far ?_ NB0_101.out _)|exact HI0.out));(case side2=>repeat(first|(with_reducible first|exact HB.out|apply G|apply J|apply qq|refine qk ?_ (kx.ge HI0.out)|refine qk ?_ GE101.out)|exact HB.out));rintro e w16 ⟨rfl,hi,hb,hk⟩;refine⟨_,rfl,?_⟩;replace BK101:=U.mk (zq.blk hk (g':=gb101) (o:=.cells #[.int .i64 0,.int .i64 0,.string (⟨#[]⟩ : ByteArray),.string (⟨#[]⟩ : ByteArray)] 34 (0,0)) (by solve_by_elim only[BK101.out,qw,qx,qv]) NB101_0.out (by simp));replace HO104:=U.mk (Kd.R_mono (Kd.R_keep (kx.apart (show kx w0 _ g s0_0 s0_1 s0_2 from by repeat(first|(with_reducible first|exact HI0.out|apply kx.alloc|apply kx.drewN|apply kx.drew|apply kx.set_1|apply kx.set_2|refine kx.far ?_ NB0_101.out _)|exact HI0.out)) (by(with_reducible repeat(first|apply Kd.zv|apply Kd.zk|apply Kd.zw));first|exact HO104.out|exact Kd.R_mono HO104.out (fun _ hk=>by first|trivial|(simp_all;done)|grind)) (by decide)) hk (fun _ h=>h.2)) (fun _ h=>h.1));replace HK:=U.mk (zq.trans (by solve_by_elim (maxDepth:=20) only[HK.out,zq.set_,zx,jz,jq,jj,GW101.out]) hk (.inl rfl));replace HB:=U.mk (hb);replace HI0:=U.mk (hi);(try clear hb hk hi);obtain⟨Ao17,co17,eo17⟩:=Kd.R_slice HO104.out;subst eo17;have p108 : 0≤(t105:Int):=of_decide_eq_true (by assumption);have q108:t105 < (y102.length:Int):=of_decide_eq_true (by assumption);obtain⟨ad108,e108,hx108_0⟩:=Kd.at_int (Kd.R_reads' HO104.out).2.2 t105 p108 q108;cases e108;replace p108:=eq_true p108;replace q108:=eq_true q108))
      have pi115:(0≤(t112:Int))=True:=eq_true (of_decide_eq_true (by assumption))
      have qi115:(t112 < (y109.length:Int))=True:=eq_true (of_decide_eq_true (by assumption))
      replace HO104:=U.mk (Kd.zw HO104.out)
      replace BK101:=U.mk (qx BK101.out)
      replace HI0:=U.mk (kx.drew HI0.out)
      replace HK:=U.mk (jz HK.out)
      replace HB:=U.mk (qq HB.out)
      refine start_ (n:=18) (S:=fun w'=>True) (ds:=[]) #[Y,Y,Y,Y,Y,Y,Y,Y,Y,Y,Y,Y,Y,Y,Y,Y,Y,Y] (by kernel_rfl) rfl rfl trivial (fun hHeld=>?_);refine with_tabW qjz.tab2 qjz.bits2 (fun HT_ HW_=>?_)
      generalize w16.drew=w18 at HO104 BK101 HI0 HK HB hHeld ⊢
      refine pure_ (i:=1) (N:=some 12) (v:=?_) (a':=?_) #[Y,Z,Y,Y,Y,Y,Y,Y,Y,Y,Y,Y,Y,Y,Y,Y,Y,Y] rfl rfl (any_of HT_.out (by kernel_rfl)) (fun _ _ _ h=>h) (Or.inl ⟨by rfl,?_⟩) ?_ ?_
      rotate_left
      ·intro w'
       go_simp
       with_reducible rfl
      rotate_left
      ·simp only[Act.put,jq5,jq6,jq7,i64_w,i32_w]
       rfl
      refine pure_ (i:=6) (N:=some 17) (v:=?_) (a':=?_) #[Y,Z,Y,Y,Y,Y,Z,Y,Y,Y,Y,Y,Y,Y,Y,Y,Y,Y] rfl rfl (any_of HT_.out (by kernel_rfl)) (fun _ _ _ h=>h) (Or.inl ⟨by rfl,?_⟩) ?_ ?_
      rotate_left
      ·intro w'
       go_simp
       with_reducible rfl
      rotate_left
      ·simp only[Act.put,jq5,jq6,jq7,i64_w,i32_w]
       rfl
      refine pure_ (i:=10) (N:=some 21) (v:=?_) (a':=?_) #[Y,Z,Y,Y,Y,Y,Z,Y,Y,Y,Z,Y,Y,Y,Y,Y,Y,Y] rfl rfl (any_of HT_.out (by kernel_rfl)) (fun _ _ _ h=>h) (Or.inl ⟨by rfl,?_⟩) ?_ ?_
      rotate_left
      ·intro w'
       go_simp
       with_reducible rfl
      rotate_left
      ·simp only[Act.put,jq5,jq6,jq7,i64_w,i32_w]
       rfl
      refine pure_ (i:=14) (N:=some 25) (v:=?_) (a':=?_) #[Y,Z,Y,Y,Y,Y,Z,Y,Y,Y,Z,Y,Y,Y,Z,Y,Y,Y] rfl rfl (any_of HT_.out (by kernel_rfl)) (fun _ _ _ h=>h) (Or.inl ⟨by rfl,?_⟩) ?_ ?_
      rotate_left
      ·intro w'
       go_simp
       with_reducible rfl
      rotate_left
      ·simp only[Act.put,jq5,jq6,jq7,i64_w,i32_w]
       rfl
      refine inv_at [0,2,3,4,5,7,8,9,11,12,13,15,16,17] (fun a0_ b a w'=>∃ (v110:Value) (adz_v110:Addr) (m3_:Value),a=putSel a0_ b [(0,11,v110),(2,13,.int .i64 t112),(3,14,m3_),(4,15,.int .i64 (rd y109 t112)),(5,16,.int .i64 (wrap64 ((rd y109 t112) * 16777216))),(7,18,.int .i64 t116),(8,19,.int .i64 (wrap64 (t116 * 65536))),(9,20,.int .i64 (wrap64 ((wrap64 ((rd y109 t112) * 16777216)) + (wrap64 (t116 * 65536))))),(11,22,.int .i64 t119),(12,23,.int .i64 (wrap64 (t119 * 256))),(13,24,.int .i64 (wrap64 ((wrap64 ((wrap64 ((rd y109 t112) * 16777216)) + (wrap64 (t116 * 65536)))) + (wrap64 (t119 * 256))))),(15,26,.int .i64 t122),(16,27,.int .i64 (wrap64 ((wrap64 ((wrap64 ((wrap64 ((rd y109 t112) * 16777216)) + (wrap64 (t116 * 65536)))) + (wrap64 (t119 * 256)))) + t122))),(17,4,.int .i64 (wrap64 ((wrap64 ((wrap64 ((wrap64 ((rd y109 t112) * 16777216)) + (wrap64 (t116 * 65536)))) + (wrap64 (t119 * 256)))) + t122)))]∧(Kd.R (Kd.int .i64) 3 w' w.heap.size (fun _=>True) (.slice (some ad108) y102.length co17) y102)∧(w'.heap[gb101]? = some (.cells #[.int .i64 0,.int .i64 0,.string (⟨#[]⟩ : ByteArray),.string (⟨#[]⟩ : ByteArray)] 34 (0,0)))∧(b 2=false→kx w0 w' g s0_0 t106 t107)∧(zq w w' g none)∧(Below w0.heap.size w0 w')∧(b 0=true→Kd.R (Kd.int .i64) 3 w' w.heap.size (fun k_=>some k_≠(.slice (some ad108) y102.length co17:Value).ownBlock) v110 y109)∧(b 0=true→∃ c_,(v110:Value)=.slice (some adz_v110) y109.length c_)∧(b 2=true→b 7=false→kx w0 w' g s0_0 t113 t114)∧(b 7=true→b 11=false→kx w0 w' g s0_0 t117 t118)∧(b 11=true→b 15=false→kx w0 w' g s0_0 t120 t121)∧(b 15=true→kx w0 w' g s0_0 t123 t124)∧(b 3=true→(m3_:Value)=.pointer (some (adz_v110.add (t112).toNat)))) HT_.out HW_.out (by kernel_rfl) (by kernel_rfl) ?_ ?_ ?_
      ·exact⟨.bool false,⟨0,0,none⟩,.bool false,by simp only[putSel,Bool.false_eq_true,if_false],(by first|exact HO104.out|exact Kd.R_mono HO104.out (fun _ hk=>by first|trivial|(simp_all;done)|grind)|exact Kd.V_mono HO104.out (fun _ hk=>by first|trivial|(simp_all;done)|grind)|exact Kd.S_mono HO104.out (fun _ hk=>by first|trivial|(simp_all;done)|grind)|exact Kd.Q_mono HO104.out (fun _ hk=>by first|trivial|(simp_all;done)|grind)|exact Kd.N_mono HO104.out (fun _ hk=>by first|trivial|(simp_all;done)|grind)),BK101.out,fun _=>HI0.out,HK.out,HB.out,fun h_=>absurd h_ (by decide),fun h_=>absurd h_ (by decide),fun h_=>absurd h_ (by decide),fun h_=>absurd h_ (by decide),fun h_=>absurd h_ (by decide),fun h_=>absurd h_ (by decide),fun h_=>absurd h_ (by decide)⟩
      ·skip
       clear BK101 HB HI0 HK HO104
       refine steps_cons ?_ ?_
       ·rintro b a w' ⟨v110,adz_v110,m3_,ha,Q_HO104,Q_BK101,Q_HI0,Q_HK,Q_HB,Q_HO111,Q_HA_HO111,Q_HI0_e2,Q_HI0_e7,Q_HI0_e11,Q_HI0_e15,Q_X3_⟩ hb_ hon hoff
        refine⟨_,rfl,fun K hK=>?_⟩
        replace ha:=U.mk ha
        have HO104:=U.mk Q_HO104
        have BK101:=U.mk Q_BK101
        have HK:=U.mk Q_HK
        have HB:=U.mk Q_HB
        refine Kd.R_lit_step (Kd.int .i64) _ 3 ?hg (N:=11) ?hd (xs:=([10,10,192,255]:List Int)) (inner:=[.int .i64 10,.int .i64 10,.int .i64 192,.int .i64 255]) (ok:=fun _=>True) (okp:=fun _=>True) ?hr ?hp (fun _ hk=>by first|exact hk|trivial|(simp_all;done)|grind) trivial (Below.refl _ _) (Nat.le_refl _) (by simp) ?_;(case hd=>rfl);(case hg=>rfl);(case hr=>first|(go_simp;done)|(go_simp;rfl));(case hp=>exact(Reps.one (show Kd.M (Kd.int .i64) _ _ _ 10 [.int .i64 10] from rfl) (Reps.one (show Kd.M (Kd.int .i64) _ _ _ 10 [.int .i64 10] from rfl) (Reps.one (show Kd.M (Kd.int .i64) _ _ _ 192 [.int .i64 192] from rfl) (Reps.one (show Kd.M (Kd.int .i64) _ _ _ 255 [.int .i64 255] from rfl) (Reps.none _ _))))))
        intro v110 w19 ho20 hb hg_ hnew_
        clear hg_ hnew_
        (first|rw[← Ny109.out] at ho20|(simp only[Int.reduceToNat] at ho20;rw[← Ny109.out] at ho20))
        have n0_:=U.mk (Kd.R_elder' (by(with_reducible repeat(first|apply Kd.zv|apply Kd.zk|apply Kd.zw));first|exact HO104.out|exact Kd.R_mono HO104.out (fun _ hk=>by first|trivial|(simp_all;done)|grind)) (Kd.R_base ho20) hb)
        have n1_:=U.mk (Kd.R_lower (Kd.R_new' ho20 (Kd.R_lt (by(with_reducible repeat(first|apply Kd.zv|apply Kd.zk|apply Kd.zw));first|exact HO104.out|exact Kd.R_mono HO104.out (fun _ hk=>by first|trivial|(simp_all;done)|grind)))) (keep_size (w:=w) (g:=g) (row:=none) (by solve_by_elim (maxDepth:=20) only[HK.out,zq.set_,zx,jz,jq,jj,GW101.out])))
        have n3_:=U.mk (kv (g:=gb101) (o:=.cells #[.int .i64 0,.int .i64 0,.string (⟨#[]⟩ : ByteArray),.string (⟨#[]⟩ : ByteArray)] 34 (0,0)) (by solve_by_elim only[BK101.out,qw,qx,qv]) hb)
        have n4_:=U.mk (zq.trans (by solve_by_elim (maxDepth:=20) only[HK.out,zq.set_,zx,jz,jq,jj,GW101.out]) (zq.of_below hb g none) (.inl rfl))
        have n5_:=U.mk (zz (by solve_by_elim (maxDepth:=20) only[HB.out,G,J,qq,qk,GE101.out]) hb)
        have z_HI0:=fun (h0_:b 2=false)=>(show kx w0 w19 g s0_0 t106 t107 from by first|exact(kx.below (by repeat(first|(with_reducible first|exact(Q_HI0 h0_)|apply kx.alloc|apply kx.drewN|apply kx.drew|apply kx.set_1|apply kx.set_2|refine kx.far ?_ NB0_101.out _)|exact(Q_HI0 h0_))) hb))
        have z_HI0_e2:=fun (h0_:b 2=true) (h1_:b 7=false)=>(show kx w0 w19 g s0_0 t113 t114 from by first|exact(kx.below (by repeat(first|(with_reducible first|exact(Q_HI0_e2 h0_ h1_)|apply kx.alloc|apply kx.drewN|apply kx.drew|apply kx.set_1|apply kx.set_2|refine kx.far ?_ NB0_101.out _)|exact(Q_HI0_e2 h0_ h1_))) hb))
        have z_HI0_e7:=fun (h0_:b 7=true) (h1_:b 11=false)=>(show kx w0 w19 g s0_0 t117 t118 from by first|exact(kx.below (by repeat(first|(with_reducible first|exact(Q_HI0_e7 h0_ h1_)|apply kx.alloc|apply kx.drewN|apply kx.drew|apply kx.set_1|apply kx.set_2|refine kx.far ?_ NB0_101.out _)|exact(Q_HI0_e7 h0_ h1_))) hb))
        have z_HI0_e11:=fun (h0_:b 11=true) (h1_:b 15=false)=>(show kx w0 w19 g s0_0 t120 t121 from by first|exact(kx.below (by repeat(first|(with_reducible first|exact(Q_HI0_e11 h0_ h1_)|apply kx.alloc|apply kx.drewN|apply kx.drew|apply kx.set_1|apply kx.set_2|refine kx.far ?_ NB0_101.out _)|exact(Q_HI0_e11 h0_ h1_))) hb))
        have z_HI0_e15:=fun (h0_:b 15=true)=>(show kx w0 w19 g s0_0 t123 t124 from by first|exact(kx.below (by repeat(first|(with_reducible first|exact(Q_HI0_e15 h0_)|apply kx.alloc|apply kx.drewN|apply kx.drew|apply kx.set_1|apply kx.set_2|refine kx.far ?_ NB0_101.out _)|exact(Q_HI0_e15 h0_))) hb))
        clear HO104
        clear BK101
        clear HK
        clear HB
        have HO104:=n0_
        have HO111:=n1_
        have BK101:=n3_
        have HK:=n4_
        have HB:=n5_
        clear n0_ n1_ n3_ n4_ n5_
        clear hb ho20
        obtain⟨Ao21,co21,eo21⟩:=Kd.R_slice HO111.out
        subst eo21
        obtain⟨ado21,fo21,_⟩:=Kd.at_int (Kd.R_reads' HO111.out).2.2 0 (by decide) (by rw[Ny109.out];simp)
        cases fo21
        refine hK.out _ _ ⟨.slice (some ado21) y109.length co21,ado21,m3_,(by rw[ha.out];exact putSel_upk 0 hb_ rfl rfl rfl),(by(with_reducible repeat(first|apply Kd.zv|apply Kd.zk|apply Kd.zw));exact Kd.R_mono HO104.out (fun _ hk=>by first|exact hk.2|trivial|(simp_all;done)|grind)),(by solve_by_elim only[BK101.out,qw,qx,qv]),z_HI0,(by solve_by_elim (maxDepth:=20) only[HK.out,zq.set_,zx,jz,jq,jj,GW101.out]),(by solve_by_elim (maxDepth:=20) only[HB.out,G,J,qq,qk,GE101.out]),fun _=>(by(with_reducible repeat(first|apply Kd.zv|apply Kd.zk|apply Kd.zw));exact Kd.R_mono HO111.out (fun _ hk=>by first|exact hk.2|trivial|(simp_all;done)|grind)),fun _=>⟨_,rfl⟩,z_HI0_e2,z_HI0_e7,z_HI0_e11,z_HI0_e15,fun h0_=>absurd ((hoff 3 (by kernel_rfl)).symm.trans h0_) (by decide)⟩
       refine steps_cons ?_ ?_
       ·rintro b a w' ⟨v110,adz_v110,m3_,ha,Q_HO104,Q_BK101,Q_HI0,Q_HK,Q_HB,Q_HO111,Q_HA_HO111,Q_HI0_e2,Q_HI0_e7,Q_HI0_e11,Q_HI0_e15,Q_X3_⟩ hb_ hon hoff
        refine⟨_,rfl,fun K hK=>?_⟩
        have e12:a.tmps[12]? = some (.pointer (some ⟨g,0,none⟩)):=by rw[ha];exact(putSel_off rfl).trans rfl
        replace ha:=U.mk ha
        have HO104:=U.mk Q_HO104
        have BK101:=U.mk Q_BK101
        have HI0:=U.mk (Q_HI0 hb_)
        have HK:=U.mk Q_HK
        have HB:=U.mk Q_HB
        refine goes_ Try.func54 (by kernel_rfl) rfl #[.pointer (some ⟨g,0,none⟩),.int .i64 4] (by rfl) rfl rfl (by first|(simp only[jq0,jq1,jq2,Act.eval,Array.getD_eq_getD_getElem?,Option.getD_some,e12];done)|(simp only[jq0,jq1,jq2,Act.eval,Array.getD_eq_getD_getElem?,Option.getD_some,e12];rfl)) ?_
        with_reducible refine(qjx.calls g s0_0 t106 t107 4 t112 t113 t114 w0 _ ?side1 ?side2 A5.out).mono ?_
        (case side1=>repeat(first|(with_reducible first|exact HI0.out|apply kx.alloc|apply kx.drewN|apply kx.drew|apply kx.set_1|apply kx.set_2|refine kx.far ?_ NB0_101.out _)|exact HI0.out))
        (case side2=>repeat(first|(with_reducible first|exact HB.out|apply G|apply J|apply qq|refine qk ?_ (kx.ge HI0.out)|refine qk ?_ GE101.out)|exact HB.out))
        rintro e w19 ⟨rfl,hi,hb,hk⟩
        refine⟨_,rfl,?_⟩
        have n0_:=U.mk (zq.blk hk (g':=gb101) (o:=.cells #[.int .i64 0,.int .i64 0,.string (⟨#[]⟩ : ByteArray),.string (⟨#[]⟩ : ByteArray)] 34 (0,0)) (by solve_by_elim only[BK101.out,qw,qx,qv]) NB101_0.out (by simp))
        have n1_:=U.mk (Kd.R_mono (Kd.R_keep (kx.apart (show kx w0 _ g s0_0 t106 t107 from by repeat(first|(with_reducible first|exact HI0.out|apply kx.alloc|apply kx.drewN|apply kx.drew|apply kx.set_1|apply kx.set_2|refine kx.far ?_ NB0_101.out _)|exact HI0.out)) (by(with_reducible repeat(first|apply Kd.zv|apply Kd.zk|apply Kd.zw));first|exact HO104.out|exact Kd.R_mono HO104.out (fun _ hk=>by first|trivial|(simp_all;done)|grind)) (by decide)) hk (fun _ h=>h.2)) (fun _ h=>h.1))
        have n2_:=U.mk (zq.trans (by solve_by_elim (maxDepth:=20) only[HK.out,zq.set_,zx,jz,jq,jj,GW101.out]) hk (.inl rfl))
        have n3_:=U.mk (hb)
        have n4_:=U.mk (hi)
        have z_HO111:=fun (h0_:b 0=true)=>(show Kd.R (Kd.int .i64) 3 w19 w.heap.size (fun k_=>some k_≠(.slice (some ad108) y102.length co17:Value).ownBlock) v110 y109 from by first|exact(Kd.R_mono (Kd.R_keep (kx.apart (show kx w0 _ g s0_0 t106 t107 from by repeat(first|(with_reducible first|exact HI0.out|apply kx.alloc|apply kx.drewN|apply kx.drew|apply kx.set_1|apply kx.set_2|refine kx.far ?_ NB0_101.out _)|exact HI0.out)) (by(with_reducible repeat(first|apply Kd.zv|apply Kd.zk|apply Kd.zw));exact(Q_HO111 h0_)) (by decide)) hk (fun _ h=>h.2)) (fun _ h=>h.1))|exact Kd.R_mono (Kd.R_mono (Kd.R_keep (kx.apart (show kx w0 _ g s0_0 t106 t107 from by repeat(first|(with_reducible first|exact HI0.out|apply kx.alloc|apply kx.drewN|apply kx.drew|apply kx.set_1|apply kx.set_2|refine kx.far ?_ NB0_101.out _)|exact HI0.out)) (by(with_reducible repeat(first|apply Kd.zv|apply Kd.zk|apply Kd.zw));exact(Q_HO111 h0_)) (by decide)) hk (fun _ h=>h.2)) (fun _ h=>h.1)) (fun _ h_=>by first|trivial|exact h_|exact h_.1))
        clear BK101
        clear HO104
        clear HK
        clear HB
        clear HI0
        have BK101:=n0_
        have HO104:=n1_
        have HK:=n2_
        have HB:=n3_
        have HI0:=n4_
        clear n0_ n1_ n2_ n3_ n4_
        (try clear hb)
        (try clear hb2)
        (try clear hk)
        (try clear hi)
        refine hK.out _ _ ⟨v110,adz_v110,m3_,(by rw[ha.out];exact putSel_upk 1 hb_ rfl rfl rfl),(by(with_reducible repeat(first|apply Kd.zv|apply Kd.zk|apply Kd.zw));first|exact HO104.out|exact Kd.R_mono HO104.out (fun _ hk=>by first|trivial|(simp_all;done)|grind)),(by solve_by_elim only[BK101.out,qw,qx,qv]),fun h0_=>absurd ((up_self b 2).symm.trans h0_) (by decide),(by solve_by_elim (maxDepth:=20) only[HK.out,zq.set_,zx,jz,jq,jj,GW101.out]),(by solve_by_elim (maxDepth:=20) only[HB.out,G,J,qq,qk,(kx.ge HI0.out),qk,GE101.out]),z_HO111,Q_HA_HO111,fun _ _=>(by solve_by_elim (maxDepth:=20) only[HI0.out,kx.alloc,kx.drewN,kx.drew,kx.set_1,kx.set_2,kx.far,NB0_101.out]),fun h0_ _=>absurd ((hoff 7 (by kernel_rfl)).symm.trans h0_) (by decide),fun h0_ _=>absurd ((hoff 11 (by kernel_rfl)).symm.trans h0_) (by decide),fun h0_=>absurd ((hoff 15 (by kernel_rfl)).symm.trans h0_) (by decide),fun h0_=>absurd ((hoff 3 (by kernel_rfl)).symm.trans h0_) (by decide)⟩
       refine steps_cons ?_ ?_
       ·rintro b a w' ⟨v110,adz_v110,m3_,ha,Q_HO104,Q_BK101,Q_HI0,Q_HK,Q_HB,Q_HO111,Q_HA_HO111,Q_HI0_e2,Q_HI0_e7,Q_HI0_e11,Q_HI0_e15,Q_X3_⟩ hb_ hon hoff
        refine⟨_,rfl,fun K hK=>?_⟩
        have e11:a.tmps[11]? = some (v110):=by rw[ha];exact putSel_on (e:=(0,11,v110)) 0 rfl rfl (hon 0 (by kernel_rfl)) rfl
        have e13:a.tmps[13]? = some (.int .i64 t112):=by rw[ha];exact putSel_on (e:=(2,13,.int .i64 t112)) 1 rfl rfl (hon 2 (by kernel_rfl)) rfl
        replace ha:=U.mk ha
        have HO104:=U.mk Q_HO104
        have BK101:=U.mk Q_BK101
        have HK:=U.mk Q_HK
        have HB:=U.mk Q_HB
        have HO111:=U.mk (Q_HO111 (hon 0 (by kernel_rfl)))
        have HA_HO111:=U.mk (Q_HA_HO111 (hon 0 (by kernel_rfl)))
        obtain⟨c_,hv_⟩:=HA_HO111.out
        rw[hv_] at e11
        refine value_ (w1:=w') (v:=.pointer (some (adz_v110.add (t112).toNat))) (by rfl) rfl ?_ ?_
        ·go_simp
         (try simp only[i64_w])
         try rfl
        refine hK.out _ _ ⟨v110,adz_v110,(.pointer (some (adz_v110.add (t112).toNat))),(by rw[ha.out];exact putSel_upk 2 hb_ rfl rfl rfl),Q_HO104,Q_BK101,fun h0_=>absurd ((hon 2 (by kernel_rfl)).symm.trans h0_) (by decide),Q_HK,Q_HB,Q_HO111,Q_HA_HO111,Q_HI0_e2,Q_HI0_e7,Q_HI0_e11,Q_HI0_e15,fun _=>rfl⟩
       refine steps_cons ?_ ?_
       ·rintro b a w' ⟨v110,adz_v110,m3_,ha,Q_HO104,Q_BK101,Q_HI0,Q_HK,Q_HB,Q_HO111,Q_HA_HO111,Q_HI0_e2,Q_HI0_e7,Q_HI0_e11,Q_HI0_e15,Q_X3_⟩ hb_ hon hoff
        refine⟨_,rfl,fun K hK=>?_⟩
        have e14:a.tmps[14]? = some (m3_):=by rw[ha];exact putSel_on (e:=(3,14,m3_)) 2 rfl rfl (hon 3 (by kernel_rfl)) rfl
        rw[Q_X3_ (hon 3 (by kernel_rfl))] at e14
        replace ha:=U.mk ha
        have HO104:=U.mk Q_HO104
        have BK101:=U.mk Q_BK101
        have HK:=U.mk Q_HK
        have HB:=U.mk Q_HB
        have HO111:=U.mk (Q_HO111 (hon 0 (by kernel_rfl)))
        have HA_HO111:=U.mk (Q_HA_HO111 (hon 0 (by kernel_rfl)))
        obtain⟨c_,hv_⟩:=HA_HO111.out
        have hF_:=HO111.out
        rw[hv_] at hF_
        obtain⟨ad_,ea_,hx_⟩:=Kd.at_int (Kd.R_reads' hF_).2.2 t112 (of_eq_true pi115) (of_eq_true qi115)
        cases ea_
        refine value_ (w1:=w') (v:=.int .i64 (rd y109 t112)) (by rfl) rfl ?_ ?_
        ·go_simp
         (try simp only[i64_w])
         try rfl
        refine hK.out _ _ ⟨v110,adz_v110,m3_,(by rw[ha.out];exact putSel_upk 3 hb_ rfl rfl rfl),Q_HO104,Q_BK101,fun h0_=>absurd ((hon 2 (by kernel_rfl)).symm.trans h0_) (by decide),Q_HK,Q_HB,Q_HO111,Q_HA_HO111,Q_HI0_e2,Q_HI0_e7,Q_HI0_e11,Q_HI0_e15,Q_X3_⟩
       refine steps_cons ?_ ?_
       ·rintro b a w' ⟨v110,adz_v110,m3_,ha,Q_HO104,Q_BK101,Q_HI0,Q_HK,Q_HB,Q_HO111,Q_HA_HO111,Q_HI0_e2,Q_HI0_e7,Q_HI0_e11,Q_HI0_e15,Q_X3_⟩ hb_ hon hoff
        refine⟨_,rfl,fun K hK=>?_⟩
        have e15:a.tmps[15]? = some (.int .i64 (rd y109 t112)):=by rw[ha];exact putSel_on (e:=(4,15,.int .i64 (rd y109 t112))) 3 rfl rfl (hon 4 (by kernel_rfl)) rfl
        replace ha:=U.mk ha
        have HO104:=U.mk Q_HO104
        have BK101:=U.mk Q_BK101
        have HK:=U.mk Q_HK
        have HB:=U.mk Q_HB
        have HO111:=U.mk (Q_HO111 (hon 0 (by kernel_rfl)))
        have HA_HO111:=U.mk (Q_HA_HO111 (hon 0 (by kernel_rfl)))
        refine value_ (w1:=w') (v:=.int .i64 (wrap64 ((rd y109 t112) * 16777216))) (by rfl) rfl ?_ ?_
        ·go_simp
         (try simp only[i64_w])
         try rfl
        refine hK.out _ _ ⟨v110,adz_v110,m3_,(by rw[ha.out];exact putSel_upk 4 hb_ rfl rfl rfl),Q_HO104,Q_BK101,fun h0_=>absurd ((hon 2 (by kernel_rfl)).symm.trans h0_) (by decide),Q_HK,Q_HB,Q_HO111,Q_HA_HO111,Q_HI0_e2,Q_HI0_e7,Q_HI0_e11,Q_HI0_e15,Q_X3_⟩
       refine steps_cons ?_ ?_
       ·rintro b a w' ⟨v110,adz_v110,m3_,ha,Q_HO104,Q_BK101,Q_HI0,Q_HK,Q_HB,Q_HO111,Q_HA_HO111,Q_HI0_e2,Q_HI0_e7,Q_HI0_e11,Q_HI0_e15,Q_X3_⟩ hb_ hon hoff
        refine⟨_,rfl,fun K hK=>?_⟩
        have e17:a.tmps[17]? = some (.pointer (some ⟨g,0,none⟩)):=by rw[ha];exact(putSel_off rfl).trans rfl
        replace ha:=U.mk ha
        have HO104:=U.mk Q_HO104
        have BK101:=U.mk Q_BK101
        have HK:=U.mk Q_HK
        have HB:=U.mk Q_HB
        have HI0:=U.mk (Q_HI0_e2 (hon 2 (by kernel_rfl)) hb_)
        refine goes_ Try.func54 (by kernel_rfl) rfl #[.pointer (some ⟨g,0,none⟩),.int .i64 3] (by rfl) rfl rfl (by first|(simp only[jq0,jq1,jq2,Act.eval,Array.getD_eq_getD_getElem?,Option.getD_some,e17];done)|(simp only[jq0,jq1,jq2,Act.eval,Array.getD_eq_getD_getElem?,Option.getD_some,e17];rfl)) ?_
        with_reducible refine(qjx.calls g s0_0 t113 t114 3 t116 t117 t118 w0 _ ?side1 ?side2 A8.out).mono ?_
        (case side1=>repeat(first|(with_reducible first|exact HI0.out|apply kx.alloc|apply kx.drewN|apply kx.drew|apply kx.set_1|apply kx.set_2|refine kx.far ?_ NB0_101.out _)|exact HI0.out))
        (case side2=>repeat(first|(with_reducible first|exact HB.out|apply G|apply J|apply qq|refine qk ?_ (kx.ge HI0.out)|refine qk ?_ GE101.out)|exact HB.out))
        rintro e w21 ⟨rfl,hi,hb,hk⟩
        refine⟨_,rfl,?_⟩
        have n0_:=U.mk (zq.blk hk (g':=gb101) (o:=.cells #[.int .i64 0,.int .i64 0,.string (⟨#[]⟩ : ByteArray),.string (⟨#[]⟩ : ByteArray)] 34 (0,0)) (by solve_by_elim only[BK101.out,qw,qx,qv]) NB101_0.out (by simp))
        have n1_:=U.mk (Kd.R_mono (Kd.R_keep (kx.apart (show kx w0 _ g s0_0 t113 t114 from by repeat(first|(with_reducible first|exact HI0.out|apply kx.alloc|apply kx.drewN|apply kx.drew|apply kx.set_1|apply kx.set_2|refine kx.far ?_ NB0_101.out _)|exact HI0.out)) (by(with_reducible repeat(first|apply Kd.zv|apply Kd.zk|apply Kd.zw));first|exact HO104.out|exact Kd.R_mono HO104.out (fun _ hk=>by first|trivial|(simp_all;done)|grind)) (by decide)) hk (fun _ h=>h.2)) (fun _ h=>h.1))
        have n2_:=U.mk (zq.trans (by solve_by_elim (maxDepth:=20) only[HK.out,zq.set_,zx,jz,jq,jj,GW101.out]) hk (.inl rfl))
        have n3_:=U.mk (hb)
        have n4_:=U.mk (hi)
        have z_HO111:=fun (h0_:b 0=true)=>(show Kd.R (Kd.int .i64) 3 w21 w.heap.size (fun k_=>some k_≠(.slice (some ad108) y102.length co17:Value).ownBlock) v110 y109 from by first|exact(Kd.R_mono (Kd.R_keep (kx.apart (show kx w0 _ g s0_0 t113 t114 from by repeat(first|(with_reducible first|exact HI0.out|apply kx.alloc|apply kx.drewN|apply kx.drew|apply kx.set_1|apply kx.set_2|refine kx.far ?_ NB0_101.out _)|exact HI0.out)) (by(with_reducible repeat(first|apply Kd.zv|apply Kd.zk|apply Kd.zw));exact(Q_HO111 h0_)) (by decide)) hk (fun _ h=>h.2)) (fun _ h=>h.1))|exact Kd.R_mono (Kd.R_mono (Kd.R_keep (kx.apart (show kx w0 _ g s0_0 t113 t114 from by repeat(first|(with_reducible first|exact HI0.out|apply kx.alloc|apply kx.drewN|apply kx.drew|apply kx.set_1|apply kx.set_2|refine kx.far ?_ NB0_101.out _)|exact HI0.out)) (by(with_reducible repeat(first|apply Kd.zv|apply Kd.zk|apply Kd.zw));exact(Q_HO111 h0_)) (by decide)) hk (fun _ h=>h.2)) (fun _ h=>h.1)) (fun _ h_=>by first|trivial|exact h_|exact h_.1))
        clear BK101
        clear HO104
        clear HK
        clear HB
        clear HI0
        have BK101:=n0_
        have HO104:=n1_
        have HK:=n2_
        have HB:=n3_
        have HI0:=n4_
        clear n0_ n1_ n2_ n3_ n4_
        (try clear hb)
        (try clear hb2)
        (try clear hk)
        (try clear hi)
        refine hK.out _ _ ⟨v110,adz_v110,m3_,(by rw[ha.out];exact putSel_upk 5 hb_ rfl rfl rfl),(by(with_reducible repeat(first|apply Kd.zv|apply Kd.zk|apply Kd.zw));first|exact HO104.out|exact Kd.R_mono HO104.out (fun _ hk=>by first|trivial|(simp_all;done)|grind)),(by solve_by_elim only[BK101.out,qw,qx,qv]),fun h0_=>absurd ((hon 2 (by kernel_rfl)).symm.trans h0_) (by decide),(by solve_by_elim (maxDepth:=20) only[HK.out,zq.set_,zx,jz,jq,jj,GW101.out]),(by solve_by_elim (maxDepth:=20) only[HB.out,G,J,qq,qk,(kx.ge HI0.out),qk,GE101.out]),z_HO111,Q_HA_HO111,fun _ h1_=>absurd ((up_self b 7).symm.trans h1_) (by decide),fun _ _=>(by solve_by_elim (maxDepth:=20) only[HI0.out,kx.alloc,kx.drewN,kx.drew,kx.set_1,kx.set_2,kx.far,NB0_101.out]),fun h0_ _=>absurd ((hoff 11 (by kernel_rfl)).symm.trans h0_) (by decide),fun h0_=>absurd ((hoff 15 (by kernel_rfl)).symm.trans h0_) (by decide),Q_X3_⟩
       refine steps_cons ?_ ?_
       ·rintro b a w' ⟨v110,adz_v110,m3_,ha,Q_HO104,Q_BK101,Q_HI0,Q_HK,Q_HB,Q_HO111,Q_HA_HO111,Q_HI0_e2,Q_HI0_e7,Q_HI0_e11,Q_HI0_e15,Q_X3_⟩ hb_ hon hoff
        refine⟨_,rfl,fun K hK=>?_⟩
        have e18:a.tmps[18]? = some (.int .i64 t116):=by rw[ha];exact putSel_on (e:=(7,18,.int .i64 t116)) 5 rfl rfl (hon 7 (by kernel_rfl)) rfl
        replace ha:=U.mk ha
        have HO104:=U.mk Q_HO104
        have BK101:=U.mk Q_BK101
        have HK:=U.mk Q_HK
        have HB:=U.mk Q_HB
        refine value_ (w1:=w') (v:=.int .i64 (wrap64 (t116 * 65536))) (by rfl) rfl ?_ ?_
        ·go_simp
         (try simp only[i64_w])
         try rfl
        refine hK.out _ _ ⟨v110,adz_v110,m3_,(by rw[ha.out];exact putSel_upk 6 hb_ rfl rfl rfl),Q_HO104,Q_BK101,fun h0_=>absurd ((hon 2 (by kernel_rfl)).symm.trans h0_) (by decide),Q_HK,Q_HB,Q_HO111,Q_HA_HO111,fun _ h1_=>absurd ((hon 7 (by kernel_rfl)).symm.trans h1_) (by decide),Q_HI0_e7,Q_HI0_e11,Q_HI0_e15,Q_X3_⟩
       refine steps_cons ?_ ?_
       ·rintro b a w' ⟨v110,adz_v110,m3_,ha,Q_HO104,Q_BK101,Q_HI0,Q_HK,Q_HB,Q_HO111,Q_HA_HO111,Q_HI0_e2,Q_HI0_e7,Q_HI0_e11,Q_HI0_e15,Q_X3_⟩ hb_ hon hoff
        refine⟨_,rfl,fun K hK=>?_⟩
        have e16:a.tmps[16]? = some (.int .i64 (wrap64 ((rd y109 t112) * 16777216))):=by rw[ha];exact putSel_on (e:=(5,16,.int .i64 (wrap64 ((rd y109 t112) * 16777216)))) 4 rfl rfl (hon 5 (by kernel_rfl)) rfl
        have e19:a.tmps[19]? = some (.int .i64 (wrap64 (t116 * 65536))):=by rw[ha];exact putSel_on (e:=(8,19,.int .i64 (wrap64 (t116 * 65536)))) 6 rfl rfl (hon 8 (by kernel_rfl)) rfl
        replace ha:=U.mk ha
        have HO104:=U.mk Q_HO104
        have BK101:=U.mk Q_BK101
        have HK:=U.mk Q_HK
        have HB:=U.mk Q_HB
        have HO111:=U.mk (Q_HO111 (hon 0 (by kernel_rfl)))
        have HA_HO111:=U.mk (Q_HA_HO111 (hon 0 (by kernel_rfl)))
        refine value_ (w1:=w') (v:=.int .i64 (wrap64 ((wrap64 ((rd y109 t112) * 16777216)) + (wrap64 (t116 * 65536))))) (by rfl) rfl ?_ ?_
        ·go_simp
         (try simp only[i64_w])
         try rfl
        refine hK.out _ _ ⟨v110,adz_v110,m3_,(by rw[ha.out];exact putSel_upk 7 hb_ rfl rfl rfl),Q_HO104,Q_BK101,fun h0_=>absurd ((hon 2 (by kernel_rfl)).symm.trans h0_) (by decide),Q_HK,Q_HB,Q_HO111,Q_HA_HO111,fun _ h1_=>absurd ((hon 7 (by kernel_rfl)).symm.trans h1_) (by decide),Q_HI0_e7,Q_HI0_e11,Q_HI0_e15,Q_X3_⟩
       refine steps_cons ?_ ?_
       ·rintro b a w' ⟨v110,adz_v110,m3_,ha,Q_HO104,Q_BK101,Q_HI0,Q_HK,Q_HB,Q_HO111,Q_HA_HO111,Q_HI0_e2,Q_HI0_e7,Q_HI0_e11,Q_HI0_e15,Q_X3_⟩ hb_ hon hoff
        refine⟨_,rfl,fun K hK=>?_⟩
        have e21:a.tmps[21]? = some (.pointer (some ⟨g,0,none⟩)):=by rw[ha];exact(putSel_off rfl).trans rfl
        replace ha:=U.mk ha
        have HO104:=U.mk Q_HO104
        have BK101:=U.mk Q_BK101
        have HK:=U.mk Q_HK
        have HB:=U.mk Q_HB
        have HI0:=U.mk (Q_HI0_e7 (hon 7 (by kernel_rfl)) hb_)
        refine goes_ Try.func54 (by kernel_rfl) rfl #[.pointer (some ⟨g,0,none⟩),.int .i64 2] (by rfl) rfl rfl (by first|(simp only[jq0,jq1,jq2,Act.eval,Array.getD_eq_getD_getElem?,Option.getD_some,e21];done)|(simp only[jq0,jq1,jq2,Act.eval,Array.getD_eq_getD_getElem?,Option.getD_some,e21];rfl)) ?_
        with_reducible refine(qjx.calls g s0_0 t117 t118 2 t119 t120 t121 w0 _ ?side1 ?side2 A9.out).mono ?_
        (case side1=>repeat(first|(with_reducible first|exact HI0.out|apply kx.alloc|apply kx.drewN|apply kx.drew|apply kx.set_1|apply kx.set_2|refine kx.far ?_ NB0_101.out _)|exact HI0.out))
        (case side2=>repeat(first|(with_reducible first|exact HB.out|apply G|apply J|apply qq|refine qk ?_ (kx.ge HI0.out)|refine qk ?_ GE101.out)|exact HB.out))
        rintro e w22 ⟨rfl,hi,hb,hk⟩
        refine⟨_,rfl,?_⟩
        have n0_:=U.mk (zq.blk hk (g':=gb101) (o:=.cells #[.int .i64 0,.int .i64 0,.string (⟨#[]⟩ : ByteArray),.string (⟨#[]⟩ : ByteArray)] 34 (0,0)) (by solve_by_elim only[BK101.out,qw,qx,qv]) NB101_0.out (by simp))
        have n1_:=U.mk (Kd.R_mono (Kd.R_keep (kx.apart (show kx w0 _ g s0_0 t117 t118 from by repeat(first|(with_reducible first|exact HI0.out|apply kx.alloc|apply kx.drewN|apply kx.drew|apply kx.set_1|apply kx.set_2|refine kx.far ?_ NB0_101.out _)|exact HI0.out)) (by(with_reducible repeat(first|apply Kd.zv|apply Kd.zk|apply Kd.zw));first|exact HO104.out|exact Kd.R_mono HO104.out (fun _ hk=>by first|trivial|(simp_all;done)|grind)) (by decide)) hk (fun _ h=>h.2)) (fun _ h=>h.1))
        have n2_:=U.mk (zq.trans (by solve_by_elim (maxDepth:=20) only[HK.out,zq.set_,zx,jz,jq,jj,GW101.out]) hk (.inl rfl))
        have n3_:=U.mk (hb)
        have n4_:=U.mk (hi)
        have z_HO111:=fun (h0_:b 0=true)=>(show Kd.R (Kd.int .i64) 3 w22 w.heap.size (fun k_=>some k_≠(.slice (some ad108) y102.length co17:Value).ownBlock) v110 y109 from by first|exact(Kd.R_mono (Kd.R_keep (kx.apart (show kx w0 _ g s0_0 t117 t118 from by repeat(first|(with_reducible first|exact HI0.out|apply kx.alloc|apply kx.drewN|apply kx.drew|apply kx.set_1|apply kx.set_2|refine kx.far ?_ NB0_101.out _)|exact HI0.out)) (by(with_reducible repeat(first|apply Kd.zv|apply Kd.zk|apply Kd.zw));exact(Q_HO111 h0_)) (by decide)) hk (fun _ h=>h.2)) (fun _ h=>h.1))|exact Kd.R_mono (Kd.R_mono (Kd.R_keep (kx.apart (show kx w0 _ g s0_0 t117 t118 from by repeat(first|(with_reducible first|exact HI0.out|apply kx.alloc|apply kx.drewN|apply kx.drew|apply kx.set_1|apply kx.set_2|refine kx.far ?_ NB0_101.out _)|exact HI0.out)) (by(with_reducible repeat(first|apply Kd.zv|apply Kd.zk|apply Kd.zw));exact(Q_HO111 h0_)) (by decide)) hk (fun _ h=>h.2)) (fun _ h=>h.1)) (fun _ h_=>by first|trivial|exact h_|exact h_.1))
        clear BK101
        clear HO104
        clear HK
        clear HB
        clear HI0
        have BK101:=n0_
        have HO104:=n1_
        have HK:=n2_
        have HB:=n3_
        have HI0:=n4_
        clear n0_ n1_ n2_ n3_ n4_
        (try clear hb)
        (try clear hb2)
        (try clear hk)
        (try clear hi)
        refine hK.out _ _ ⟨v110,adz_v110,m3_,(by rw[ha.out];exact putSel_upk 8 hb_ rfl rfl rfl),(by(with_reducible repeat(first|apply Kd.zv|apply Kd.zk|apply Kd.zw));first|exact HO104.out|exact Kd.R_mono HO104.out (fun _ hk=>by first|trivial|(simp_all;done)|grind)),(by solve_by_elim only[BK101.out,qw,qx,qv]),fun h0_=>absurd ((hon 2 (by kernel_rfl)).symm.trans h0_) (by decide),(by solve_by_elim (maxDepth:=20) only[HK.out,zq.set_,zx,jz,jq,jj,GW101.out]),(by solve_by_elim (maxDepth:=20) only[HB.out,G,J,qq,qk,(kx.ge HI0.out),qk,GE101.out]),z_HO111,Q_HA_HO111,fun _ h1_=>absurd ((hon 7 (by kernel_rfl)).symm.trans h1_) (by decide),fun _ h1_=>absurd ((up_self b 11).symm.trans h1_) (by decide),fun _ _=>(by solve_by_elim (maxDepth:=20) only[HI0.out,kx.alloc,kx.drewN,kx.drew,kx.set_1,kx.set_2,kx.far,NB0_101.out]),fun h0_=>absurd ((hoff 15 (by kernel_rfl)).symm.trans h0_) (by decide),Q_X3_⟩
       refine steps_cons ?_ ?_
       ·rintro b a w' ⟨v110,adz_v110,m3_,ha,Q_HO104,Q_BK101,Q_HI0,Q_HK,Q_HB,Q_HO111,Q_HA_HO111,Q_HI0_e2,Q_HI0_e7,Q_HI0_e11,Q_HI0_e15,Q_X3_⟩ hb_ hon hoff
        refine⟨_,rfl,fun K hK=>?_⟩
        have e22:a.tmps[22]? = some (.int .i64 t119):=by rw[ha];exact putSel_on (e:=(11,22,.int .i64 t119)) 8 rfl rfl (hon 11 (by kernel_rfl)) rfl
        replace ha:=U.mk ha
        have HO104:=U.mk Q_HO104
        have BK101:=U.mk Q_BK101
        have HK:=U.mk Q_HK
        have HB:=U.mk Q_HB
        refine value_ (w1:=w') (v:=.int .i64 (wrap64 (t119 * 256))) (by rfl) rfl ?_ ?_
        ·go_simp
         (try simp only[i64_w])
         try rfl
        refine hK.out _ _ ⟨v110,adz_v110,m3_,(by rw[ha.out];exact putSel_upk 9 hb_ rfl rfl rfl),Q_HO104,Q_BK101,fun h0_=>absurd ((hon 2 (by kernel_rfl)).symm.trans h0_) (by decide),Q_HK,Q_HB,Q_HO111,Q_HA_HO111,fun _ h1_=>absurd ((hon 7 (by kernel_rfl)).symm.trans h1_) (by decide),fun _ h1_=>absurd ((hon 11 (by kernel_rfl)).symm.trans h1_) (by decide),Q_HI0_e11,Q_HI0_e15,Q_X3_⟩
       refine steps_cons ?_ ?_
       ·rintro b a w' ⟨v110,adz_v110,m3_,ha,Q_HO104,Q_BK101,Q_HI0,Q_HK,Q_HB,Q_HO111,Q_HA_HO111,Q_HI0_e2,Q_HI0_e7,Q_HI0_e11,Q_HI0_e15,Q_X3_⟩ hb_ hon hoff
        refine⟨_,rfl,fun K hK=>?_⟩
        have e20:a.tmps[20]? = some (.int .i64 (wrap64 ((wrap64 ((rd y109 t112) * 16777216)) + (wrap64 (t116 * 65536))))):=by rw[ha];exact putSel_on (e:=(9,20,.int .i64 (wrap64 ((wrap64 ((rd y109 t112) * 16777216)) + (wrap64 (t116 * 65536)))))) 7 rfl rfl (hon 9 (by kernel_rfl)) rfl
        have e23:a.tmps[23]? = some (.int .i64 (wrap64 (t119 * 256))):=by rw[ha];exact putSel_on (e:=(12,23,.int .i64 (wrap64 (t119 * 256)))) 9 rfl rfl (hon 12 (by kernel_rfl)) rfl
        replace ha:=U.mk ha
        have HO104:=U.mk Q_HO104
        have BK101:=U.mk Q_BK101
        have HK:=U.mk Q_HK
        have HB:=U.mk Q_HB
        have HO111:=U.mk (Q_HO111 (hon 0 (by kernel_rfl)))
        have HA_HO111:=U.mk (Q_HA_HO111 (hon 0 (by kernel_rfl)))
        refine value_ (w1:=w') (v:=.int .i64 (wrap64 ((wrap64 ((wrap64 ((rd y109 t112) * 16777216)) + (wrap64 (t116 * 65536)))) + (wrap64 (t119 * 256))))) (by rfl) rfl ?_ ?_
        ·go_simp
         (try simp only[i64_w])
         try rfl
        refine hK.out _ _ ⟨v110,adz_v110,m3_,(by rw[ha.out];exact putSel_upk 10 hb_ rfl rfl rfl),Q_HO104,Q_BK101,fun h0_=>absurd ((hon 2 (by kernel_rfl)).symm.trans h0_) (by decide),Q_HK,Q_HB,Q_HO111,Q_HA_HO111,fun _ h1_=>absurd ((hon 7 (by kernel_rfl)).symm.trans h1_) (by decide),fun _ h1_=>absurd ((hon 11 (by kernel_rfl)).symm.trans h1_) (by decide),Q_HI0_e11,Q_HI0_e15,Q_X3_⟩
       refine steps_cons ?_ ?_
       ·rintro b a w' ⟨v110,adz_v110,m3_,ha,Q_HO104,Q_BK101,Q_HI0,Q_HK,Q_HB,Q_HO111,Q_HA_HO111,Q_HI0_e2,Q_HI0_e7,Q_HI0_e11,Q_HI0_e15,Q_X3_⟩ hb_ hon hoff
        refine⟨_,rfl,fun K hK=>?_⟩
        have e25:a.tmps[25]? = some (.pointer (some ⟨g,0,none⟩)):=by rw[ha];exact(putSel_off rfl).trans rfl
        replace ha:=U.mk ha
        have HO104:=U.mk Q_HO104
        have BK101:=U.mk Q_BK101
        have HK:=U.mk Q_HK
        have HB:=U.mk Q_HB
        have HI0:=U.mk (Q_HI0_e11 (hon 11 (by kernel_rfl)) hb_)
        refine goes_ Try.func54 (by kernel_rfl) rfl #[.pointer (some ⟨g,0,none⟩),.int .i64 4] (by rfl) rfl rfl (by first|(simp only[jq0,jq1,jq2,Act.eval,Array.getD_eq_getD_getElem?,Option.getD_some,e25];done)|(simp only[jq0,jq1,jq2,Act.eval,Array.getD_eq_getD_getElem?,Option.getD_some,e25];rfl)) ?_
        with_reducible refine(qjx.calls g s0_0 t120 t121 4 t122 t123 t124 w0 _ ?side1 ?side2 A10.out).mono ?_
        (case side1=>repeat(first|(with_reducible first|exact HI0.out|apply kx.alloc|apply kx.drewN|apply kx.drew|apply kx.set_1|apply kx.set_2|refine kx.far ?_ NB0_101.out _)|exact HI0.out))
        (case side2=>repeat(first|(with_reducible first|exact HB.out|apply G|apply J|apply qq|refine qk ?_ (kx.ge HI0.out)|refine qk ?_ GE101.out)|exact HB.out))
        rintro e w23 ⟨rfl,hi,hb,hk⟩
        refine⟨_,rfl,?_⟩
        have n0_:=U.mk (zq.blk hk (g':=gb101) (o:=.cells #[.int .i64 0,.int .i64 0,.string (⟨#[]⟩ : ByteArray),.string (⟨#[]⟩ : ByteArray)] 34 (0,0)) (by solve_by_elim only[BK101.out,qw,qx,qv]) NB101_0.out (by simp))
        have n1_:=U.mk (Kd.R_mono (Kd.R_keep (kx.apart (show kx w0 _ g s0_0 t120 t121 from by repeat(first|(with_reducible first|exact HI0.out|apply kx.alloc|apply kx.drewN|apply kx.drew|apply kx.set_1|apply kx.set_2|refine kx.far ?_ NB0_101.out _)|exact HI0.out)) (by(with_reducible repeat(first|apply Kd.zv|apply Kd.zk|apply Kd.zw));first|exact HO104.out|exact Kd.R_mono HO104.out (fun _ hk=>by first|trivial|(simp_all;done)|grind)) (by decide)) hk (fun _ h=>h.2)) (fun _ h=>h.1))
        have n2_:=U.mk (zq.trans (by solve_by_elim (maxDepth:=20) only[HK.out,zq.set_,zx,jz,jq,jj,GW101.out]) hk (.inl rfl))
        have n3_:=U.mk (hb)
        have n4_:=U.mk (hi)
        have z_HO111:=fun (h0_:b 0=true)=>(show Kd.R (Kd.int .i64) 3 w23 w.heap.size (fun k_=>some k_≠(.slice (some ad108) y102.length co17:Value).ownBlock) v110 y109 from by first|exact(Kd.R_mono (Kd.R_keep (kx.apart (show kx w0 _ g s0_0 t120 t121 from by repeat(first|(with_reducible first|exact HI0.out|apply kx.alloc|apply kx.drewN|apply kx.drew|apply kx.set_1|apply kx.set_2|refine kx.far ?_ NB0_101.out _)|exact HI0.out)) (by(with_reducible repeat(first|apply Kd.zv|apply Kd.zk|apply Kd.zw));exact(Q_HO111 h0_)) (by decide)) hk (fun _ h=>h.2)) (fun _ h=>h.1))|exact Kd.R_mono (Kd.R_mono (Kd.R_keep (kx.apart (show kx w0 _ g s0_0 t120 t121 from by repeat(first|(with_reducible first|exact HI0.out|apply kx.alloc|apply kx.drewN|apply kx.drew|apply kx.set_1|apply kx.set_2|refine kx.far ?_ NB0_101.out _)|exact HI0.out)) (by(with_reducible repeat(first|apply Kd.zv|apply Kd.zk|apply Kd.zw));exact(Q_HO111 h0_)) (by decide)) hk (fun _ h=>h.2)) (fun _ h=>h.1)) (fun _ h_=>by first|trivial|exact h_|exact h_.1))
        clear BK101
        clear HO104
        clear HK
        clear HB
        clear HI0
        have BK101:=n0_
        have HO104:=n1_
        have HK:=n2_
        have HB:=n3_
        have HI0:=n4_
        clear n0_ n1_ n2_ n3_ n4_
        (try clear hb)
        (try clear hb2)
        (try clear hk)
        (try clear hi)
        refine hK.out _ _ ⟨v110,adz_v110,m3_,(by rw[ha.out];exact putSel_upk 11 hb_ rfl rfl rfl),(by(with_reducible repeat(first|apply Kd.zv|apply Kd.zk|apply Kd.zw));first|exact HO104.out|exact Kd.R_mono HO104.out (fun _ hk=>by first|trivial|(simp_all;done)|grind)),(by solve_by_elim only[BK101.out,qw,qx,qv]),fun h0_=>absurd ((hon 2 (by kernel_rfl)).symm.trans h0_) (by decide),(by solve_by_elim (maxDepth:=20) only[HK.out,zq.set_,zx,jz,jq,jj,GW101.out]),(by solve_by_elim (maxDepth:=20) only[HB.out,G,J,qq,qk,(kx.ge HI0.out),qk,GE101.out]),z_HO111,Q_HA_HO111,fun _ h1_=>absurd ((hon 7 (by kernel_rfl)).symm.trans h1_) (by decide),fun _ h1_=>absurd ((hon 11 (by kernel_rfl)).symm.trans h1_) (by decide),fun _ h1_=>absurd ((up_self b 15).symm.trans h1_) (by decide),fun _=>(by solve_by_elim (maxDepth:=20) only[HI0.out,kx.alloc,kx.drewN,kx.drew,kx.set_1,kx.set_2,kx.far,NB0_101.out]),Q_X3_⟩
       refine steps_cons ?_ ?_
       ·rintro b a w' ⟨v110,adz_v110,m3_,ha,Q_HO104,Q_BK101,Q_HI0,Q_HK,Q_HB,Q_HO111,Q_HA_HO111,Q_HI0_e2,Q_HI0_e7,Q_HI0_e11,Q_HI0_e15,Q_X3_⟩ hb_ hon hoff
        refine⟨_,rfl,fun K hK=>?_⟩
        have e24:a.tmps[24]? = some (.int .i64 (wrap64 ((wrap64 ((wrap64 ((rd y109 t112) * 16777216)) + (wrap64 (t116 * 65536)))) + (wrap64 (t119 * 256))))):=by rw[ha];exact putSel_on (e:=(13,24,.int .i64 (wrap64 ((wrap64 ((wrap64 ((rd y109 t112) * 16777216)) + (wrap64 (t116 * 65536)))) + (wrap64 (t119 * 256)))))) 10 rfl rfl (hon 13 (by kernel_rfl)) rfl
        have e26:a.tmps[26]? = some (.int .i64 t122):=by rw[ha];exact putSel_on (e:=(15,26,.int .i64 t122)) 11 rfl rfl (hon 15 (by kernel_rfl)) rfl
        replace ha:=U.mk ha
        have HO104:=U.mk Q_HO104
        have BK101:=U.mk Q_BK101
        have HK:=U.mk Q_HK
        have HB:=U.mk Q_HB
        have HO111:=U.mk (Q_HO111 (hon 0 (by kernel_rfl)))
        have HA_HO111:=U.mk (Q_HA_HO111 (hon 0 (by kernel_rfl)))
        have HI0:=U.mk (Q_HI0_e15 (hon 15 (by kernel_rfl)))
        refine value_ (w1:=w') (v:=.int .i64 (wrap64 ((wrap64 ((wrap64 ((wrap64 ((rd y109 t112) * 16777216)) + (wrap64 (t116 * 65536)))) + (wrap64 (t119 * 256)))) + t122))) (by rfl) rfl ?_ ?_
        ·go_simp
         (try simp only[i64_w])
         try rfl
        refine hK.out _ _ ⟨v110,adz_v110,m3_,(by rw[ha.out];exact putSel_upk 12 hb_ rfl rfl rfl),Q_HO104,Q_BK101,fun h0_=>absurd ((hon 2 (by kernel_rfl)).symm.trans h0_) (by decide),Q_HK,Q_HB,Q_HO111,Q_HA_HO111,fun _ h1_=>absurd ((hon 7 (by kernel_rfl)).symm.trans h1_) (by decide),fun _ h1_=>absurd ((hon 11 (by kernel_rfl)).symm.trans h1_) (by decide),fun _ h1_=>absurd ((hon 15 (by kernel_rfl)).symm.trans h1_) (by decide),Q_HI0_e15,Q_X3_⟩
       refine steps_cons ?_ ?_
       ·rintro b a w' ⟨v110,adz_v110,m3_,ha,Q_HO104,Q_BK101,Q_HI0,Q_HK,Q_HB,Q_HO111,Q_HA_HO111,Q_HI0_e2,Q_HI0_e7,Q_HI0_e11,Q_HI0_e15,Q_X3_⟩ hb_ hon hoff
        refine⟨_,rfl,fun K hK=>?_⟩
        have e27:a.tmps[27]? = some (.int .i64 (wrap64 ((wrap64 ((wrap64 ((wrap64 ((rd y109 t112) * 16777216)) + (wrap64 (t116 * 65536)))) + (wrap64 (t119 * 256)))) + t122))):=by rw[ha];exact putSel_on (e:=(16,27,.int .i64 (wrap64 ((wrap64 ((wrap64 ((wrap64 ((rd y109 t112) * 16777216)) + (wrap64 (t116 * 65536)))) + (wrap64 (t119 * 256)))) + t122)))) 12 rfl rfl (hon 16 (by kernel_rfl)) rfl
        replace ha:=U.mk ha
        have HO104:=U.mk Q_HO104
        have BK101:=U.mk Q_BK101
        have HK:=U.mk Q_HK
        have HB:=U.mk Q_HB
        have HO111:=U.mk (Q_HO111 (hon 0 (by kernel_rfl)))
        have HA_HO111:=U.mk (Q_HA_HO111 (hon 0 (by kernel_rfl)))
        have HI0:=U.mk (Q_HI0_e15 (hon 15 (by kernel_rfl)))
        refine value_ (w1:=w') (v:=.int .i64 (wrap64 ((wrap64 ((wrap64 ((wrap64 ((rd y109 t112) * 16777216)) + (wrap64 (t116 * 65536)))) + (wrap64 (t119 * 256)))) + t122))) (by rfl) rfl ?_ ?_
        ·go_simp
         (try simp only[i64_w])
         try rfl
        refine hK.out _ _ ⟨v110,adz_v110,m3_,(by rw[ha.out];exact putSel_upk 13 hb_ rfl rfl rfl),Q_HO104,Q_BK101,fun h0_=>absurd ((hon 2 (by kernel_rfl)).symm.trans h0_) (by decide),Q_HK,Q_HB,Q_HO111,Q_HA_HO111,fun _ h1_=>absurd ((hon 7 (by kernel_rfl)).symm.trans h1_) (by decide),fun _ h1_=>absurd ((hon 11 (by kernel_rfl)).symm.trans h1_) (by decide),fun _ h1_=>absurd ((hon 15 (by kernel_rfl)).symm.trans h1_) (by decide),Q_HI0_e15,Q_X3_⟩
       exact steps_nil
      rintro b a w26 hall ⟨v110,adz_v110,m3_,ha,Q_HO104,Q_BK101,Q_HI0,Q_HK,Q_HB,Q_HO111,Q_HA_HO111,Q_HI0_e2,Q_HI0_e7,Q_HI0_e11,Q_HI0_e15,Q_X3_⟩
      clear BK101 HB HI0 HK HO104
      have hb0_:=hall 0 (by kernel_rfl)
      have hb2_:=hall 2 (by kernel_rfl)
      have hb3_:=hall 3 (by kernel_rfl)
      have hb4_:=hall 4 (by kernel_rfl)
      have hb5_:=hall 5 (by kernel_rfl)
      have hb7_:=hall 7 (by kernel_rfl)
      have hb8_:=hall 8 (by kernel_rfl)
      have hb9_:=hall 9 (by kernel_rfl)
      have hb11_:=hall 11 (by kernel_rfl)
      have hb12_:=hall 12 (by kernel_rfl)
      have hb13_:=hall 13 (by kernel_rfl)
      have hb15_:=hall 15 (by kernel_rfl)
      have hb16_:=hall 16 (by kernel_rfl)
      have hb17_:=hall 17 (by kernel_rfl)
      subst ha
      obtain rfl:=Q_X3_ hb3_
      simp only[putSel,hb0_,hb2_,hb3_,hb4_,hb5_,hb7_,hb8_,hb9_,hb11_,hb12_,hb13_,hb15_,hb16_,hb17_,if_true,Act.put,jq5,jq6,jq7]
      have HO104:=U.mk Q_HO104
      clear Q_HO104
      have BK101:=U.mk Q_BK101
      clear Q_BK101
      clear Q_HI0
      have HK:=U.mk Q_HK
      clear Q_HK
      have HB:=U.mk Q_HB
      clear Q_HB
      have HO111:=U.mk (Q_HO111 hb0_)
      clear Q_HO111
      have HA_HO111:=U.mk (Q_HA_HO111 hb0_)
      clear Q_HA_HO111
      clear Q_HI0_e2
      clear Q_HI0_e7
      clear Q_HI0_e11
      have HI0:=U.mk (Q_HI0_e15 hb15_)
      clear Q_HI0_e15
      clear hall hb0_ hb2_ hb3_ hb4_ hb5_ hb7_ hb8_ hb9_ hb11_ hb12_ hb13_ hb15_ hb16_ hb17_
      obtain⟨co27,eo27⟩:=HA_HO111.out
      clear HA_HO111
      subst eo27
      try go_wp2_with (first|((with_reducible refine jw (f:=74) rfl ?_);refine goesL_ (some 30) rfl rfl Try.func74 (by kernel_rfl) rfl #[.int .i64 (wrap64 (32 - (rd y102 t105)))] rfl (by(try simp only[jq0,jq1,jq2]);first|done|rfl|(simp only[jq3,jq4];rfl)) ?_;(with_reducible refine(qkv.calls k (wrap64 (32 - (rd y102 t105))) t125 _ A11.out).mono ?_);rintro e w' ⟨rfl,⟨nd,rfl⟩⟩;refine⟨_,rfl,?_⟩;(try (rw[drewN_self w26];generalize hq_:World.drewN w26 _=w26;have n0_:U (Kd.R (Kd.int .i64) 3 w26 w.heap.size (fun k_=>some k_≠(.slice (some adz_v110) y109.length co27:Value).ownBlock) (.slice (some ad108) y102.length co17) y102):=⟨by rw[← hq_];exact(by(with_reducible repeat(first|apply Kd.zv|apply Kd.zk|apply Kd.zw));first|exact HO104.out|exact Kd.R_mono HO104.out (fun _ hk=>by first|trivial|(simp_all;done)|grind))⟩;have n1_:U (Kd.R (Kd.int .i64) 3 w26 w.heap.size (fun k_=>some k_≠(.slice (some ad108) y102.length co17:Value).ownBlock) (.slice (some adz_v110) y109.length co27) y109):=⟨by rw[← hq_];exact(by(with_reducible repeat(first|apply Kd.zv|apply Kd.zk|apply Kd.zw));first|exact HO111.out|exact Kd.R_mono HO111.out (fun _ hk=>by first|trivial|(simp_all;done)|grind))⟩;have n2_:U (w26.heap[gb101]? = some (.cells #[.int .i64 0,.int .i64 0,.string (⟨#[]⟩ : ByteArray),.string (⟨#[]⟩ : ByteArray)] 34 (0,0))):=⟨by rw[← hq_];exact(by solve_by_elim only[BK101.out,qw,qx,qv])⟩;have n3_:U (kx w0 w26 g s0_0 t123 t124):=⟨by rw[← hq_];exact(by solve_by_elim (maxDepth:=20) only[HI0.out,kx.alloc,kx.drewN,kx.drew,kx.set_1,kx.set_2,kx.far,NB0_101.out])⟩;have n4_:U (zq w w26 g none):=⟨by rw[← hq_];exact(by solve_by_elim (maxDepth:=20) only[HK.out,zq.set_,zx,jz,jq,jj,GW101.out])⟩;have n5_:U (Below w0.heap.size w0 w26):=⟨by rw[← hq_];exact(by solve_by_elim (maxDepth:=20) only[HB.out,G,J,qq,qk,(kx.ge HI0.out),qk,GE101.out])⟩;clear HO104 HO111 BK101 HI0 HK HB hq_;have HO104:=n0_;have HO111:=n1_;have BK101:=n2_;have HI0:=n3_;have HK:=n4_;have HB:=n5_;clear n0_ n1_ n2_ n3_ n4_ n5_));have hnb28:=NB101_0.out;have hnc28:=NB0_101.out;have hcz29_0:w26.cell? ⟨gb101,0,none⟩ = some (.int .i64 0):=(qj BK101.out 0).trans rfl;have hcz29_1:w26.cell? ⟨gb101,1,none⟩ = some (.int .i64 0):=(qj BK101.out 1).trans rfl;have hcz29_2:w26.cell? ⟨gb101,2,none⟩ = some (.string (⟨#[]⟩ : ByteArray)):=(qj BK101.out 2).trans rfl;have hcz29_3:w26.cell? ⟨gb101,3,none⟩ = some (.string (⟨#[]⟩ : ByteArray)):=(qj BK101.out 3).trans rfl;have hfz29_0:=qz BK101.out 0;have hfz29_1:=qz BK101.out 1;have hfz29_2:=qz BK101.out 2;have hfz29_3:=qz BK101.out 3))
      refine bodyPost_ret (results_cell_row rfl _ _ gb101 34 #[.int .i64 6,.int .i64 (wrap64 ((wrap64 ((wrap64 ((wrap64 (Int.tdiv (wrap64 ((wrap64 ((wrap64 ((wrap64 ((rd y109 t112) * 16777216)) + (wrap64 (t116 * 65536)))) + (wrap64 (t119 * 256)))) + t122)) t125)) * t125)) * 64)) + (rd y102 t105))),.string (⟨#[]⟩ : ByteArray),.string (⟨#[]⟩ : ByteArray)] (0,0) _ rfl (by(with_reducible repeat(first|refine qw ?_ _|refine qx ?_|refine qv ?_ _));refine blk_put (cs:=#[.int .i64 6,.int .i64 (wrap64 ((wrap64 ((wrap64 ((wrap64 (Int.tdiv (wrap64 ((wrap64 ((wrap64 ((wrap64 ((rd y109 t112) * 16777216)) + (wrap64 (t116 * 65536)))) + (wrap64 (t119 * 256)))) + t122)) t125)) * t125)) * 64)) + (rd y102 t105))),.string (⟨#[]⟩ : ByteArray),.string (⟨#[]⟩ : ByteArray)]) ?_ 3 _ rfl;(with_reducible repeat(first|refine qw ?_ _|refine qx ?_|refine qv ?_ _));refine blk_put (cs:=#[.int .i64 6,.int .i64 (wrap64 ((wrap64 ((wrap64 ((wrap64 (Int.tdiv (wrap64 ((wrap64 ((wrap64 ((wrap64 ((rd y109 t112) * 16777216)) + (wrap64 (t116 * 65536)))) + (wrap64 (t119 * 256)))) + t122)) t125)) * t125)) * 64)) + (rd y102 t105))),.string (⟨#[]⟩ : ByteArray),.string (⟨#[]⟩ : ByteArray)]) ?_ 2 _ rfl;(with_reducible repeat(first|refine qw ?_ _|refine qx ?_|refine qv ?_ _));refine blk_put (cs:=#[.int .i64 6,.int .i64 0,.string (⟨#[]⟩ : ByteArray),.string (⟨#[]⟩ : ByteArray)]) ?_ 1 _ rfl;(with_reducible repeat(first|refine qw ?_ _|refine qx ?_|refine qv ?_ _));refine blk_put (cs:=#[.int .i64 0,.int .i64 0,.string (⟨#[]⟩ : ByteArray),.string (⟨#[]⟩ : ByteArray)]) ?_ 0 _ rfl;(with_reducible repeat(first|refine qw ?_ _|refine qx ?_|refine qv ?_ _));exact BK101.out) Try.underlying34 rfl (by kernel_rfl)) rfl ?_
      exact⟨by first|rfl|(simp[*,jv,jk] <;> rfl),by repeat(first|(with_reducible first|exact HI0.out|apply kx.alloc|apply kx.drewN|apply kx.drew|apply kx.set_1|apply kx.set_2|refine kx.far ?_ NB0_101.out _)|exact HI0.out),by repeat(first|(with_reducible first|exact HB.out|apply G|apply J|apply qq|refine qk ?_ (kx.ge HI0.out)|refine qk ?_ GE101.out)|exact HB.out),by repeat(first|(with_reducible first|exact HK.out|apply zq.set_|apply zx|apply jz|apply jq|refine jj ?_ GW101.out _)|exact HK.out)⟩
    ·rw[if_neg c7] at H
     exact absurd H (by simp)
   ·rw[if_neg c6] at H
    exact absurd H (by simp)
  ·rw[if_neg c4] at H
   exact absurd H (by simp)
 ·rw[if_neg c3] at H
  exact absurd H (by simp)
def qjq.f (k:Nat) (s0_0:List Int) (s0_1:Int) (s0_2:Int):Option (Int × Int × ByteArray × ByteArray × Int × Int):=(qjx.f s0_0 s0_1 s0_2 9).bind fun bt102=>(if bt102.1=0 then((qjx.f s0_0 bt102.2.1 bt102.2.2 2).bind fun bt105=>(some (1,bt105.1,(⟨#[]⟩ : ByteArray),(⟨#[]⟩ : ByteArray),bt105.2.1,bt105.2.2))) else(if bt102.1=1 then((qjx.f s0_0 bt102.2.1 bt102.2.2 7).bind fun bt108=>(some (2,wrap64 (bt108.1 - 3),(⟨#[]⟩ : ByteArray),(⟨#[]⟩ : ByteArray),bt108.2.1,bt108.2.2))) else(if bt102.1=2 then((qkz.f k s0_0 bt102.2.1 bt102.2.2).bind fun bt111=>(some (2,bt111.1,(⟨#[]⟩ : ByteArray),(⟨#[]⟩ : ByteArray),bt111.2.1,bt111.2.2))) else(if bt102.1=3 then((qkq.f k s0_0 bt102.2.1 bt102.2.2).bind fun bt114=>(some (3,0,bt114.1,(⟨#[]⟩ : ByteArray),bt114.2.1,bt114.2.2))) else(if bt102.1=4 then((qjv.f s0_0 bt102.2.1 bt102.2.2 (([(⟨#[85,115,101,114]⟩ : ByteArray),(⟨#[68,111,99]⟩ : ByteArray),(⟨#[95,103,49]⟩ : ByteArray)]:List ByteArray))).bind fun bt120=>((qjv.f s0_0 bt120.2.1 bt120.2.2 (([(⟨#[97,110,110]⟩ : ByteArray),(⟨#[98,111,98]⟩ : ByteArray),(⟨#[97,32,98]⟩ : ByteArray),(⟨#[120,34,121]⟩ : ByteArray),(⟨#[92]⟩ : ByteArray)]:List ByteArray))).bind fun bt126=>(some (4,0,bt126.1,bt120.1,bt126.2.1,bt126.2.2)))) else(if bt102.1=5 then((qjx.f s0_0 bt102.2.1 bt102.2.2 40000).bind fun bt129=>(some (5,wrap64 (bt129.1 - 20000),(⟨#[]⟩ : ByteArray),(⟨#[]⟩ : ByteArray),bt129.2.1,bt129.2.2))) else(if bt102.1=6 then((qjz.f k s0_0 bt102.2.1 bt102.2.2).bind fun bt132=>(some (bt132.1,bt132.2.1,bt132.2.2.1,bt132.2.2.2.1,bt132.2.2.2.2.1,bt132.2.2.2.2.2))) else(if bt102.1=7 then((qjx.f s0_0 bt102.2.1 bt102.2.2 1000).bind fun bt138=>(some (7,wrap64 (bt138.1 - 10),(⟨#[]⟩ : ByteArray),(⟨#[]⟩ : ByteArray),bt138.2.1,bt138.2.2))) else((qkz.f k s0_0 bt102.2.1 bt102.2.2).bind fun bt141=>(some (5,bt141.1,(⟨#[]⟩ : ByteArray),(⟨#[]⟩ : ByteArray),bt141.2.1,bt141.2.2)))))))))))
theorem qjq.calls (k:Nat) (g:Nat) (s0_0:List Int) (s0_1:Int) (s0_2:Int) (r1:Int) (r2:Int) (r3:ByteArray) (r4:ByteArray) (r5:Int) (r6:Int) (w0 w:World) (hI:kx w0 w g s0_0 s0_1 s0_2) (hB:Below w0.heap.size w0 w) (h:qjq.f k s0_0 s0_1 s0_2=some (r1,r2,r3,r4,r5,r6)) :
  Calls Try.prog 69 #[.pointer (some ⟨g,0,none⟩)] w fun e w'=>e=.returned (.agg #[.int .i64 r1,.int .i64 r2,.string r3,.string r4])∧kx w0 w' g s0_0 r5 r6∧Below w0.heap.size w0 w'∧zq w w' g none:=by
 have hu34:=Try.underlying34
 have HI0:=U.mk hI
 have HK:=U.mk (zq.refl w g none)
 have HL:=U.mk hB.size
 clear hI
 have HW0:=U.mk hB.size
 have HB:=U.mk hB
 clear hB
 unfold qjq.f at h
 have H:=h
 clear h
 replace H:=jq8.mp H
 obtain⟨⟨t102,t103,t104⟩,A20,H⟩:=H
 try dsimp only at H
 have A2:=U.mk A20
 clear A20
 by_cases c3:t102=0
 ·rw[if_pos c3] at H
  have c3b0:(t102 == 0)=true:=beq_iff_eq.mpr c3
  have c3b1:(t102 != 0)=false:=bne_eq_false_iff_eq.mpr c3
  clear c3
  replace H:=jq8.mp H
  obtain⟨⟨t105,t106,t107⟩,A40,H⟩:=H
  try dsimp only at H
  have A4:=U.mk A40
  clear A40
  simp only[Option.some.injEq,Prod.mk.injEq] at H
  obtain⟨rfl,rfl,rfl,rfl,rfl,rfl⟩:=H
  go_enter Try.func69,Try.ntmps69
  go_wp2_with (first|((with_reducible refine gate_dst (N:=2) rfl ?_);refine box_event ?hg (N:=2) ?hd (cs:=#[.int .i64 0,.int .i64 0,.string (⟨#[]⟩ : ByteArray),.string (⟨#[]⟩ : ByteArray)]) (t:=34) ?hr ?_;(case hd=>rfl);(case hg=>rfl);(case hr=>first|(go_simp;done)|(go_simp;rfl));intro gb101 hg w5 hbox hb;replace HB:=U.mk (zz (by solve_by_elim (maxDepth:=20) only[HB.out,G,J,qq,qk,(kx.ge HI0.out)]) hb);have BK101:=U.mk (hbox);have GW101:=U.mk ((by rw[hg];exact(keep_size (w:=w) (g:=g) (row:=none) (by solve_by_elim (maxDepth:=20) only[HK.out,zq.set_,zx,jz,jq])):w.heap.size≤gb101));have GE101:=U.mk ((Nat.le_trans HW0.out (by rw[hg];exact(keep_size (w:=w) (g:=g) (row:=none) (by solve_by_elim (maxDepth:=20) only[HK.out,zq.set_,zx,jz,jq])):w.heap.size≤gb101):w0.heap.size≤gb101));replace HK:=U.mk (zq.trans (by solve_by_elim (maxDepth:=20) only[HK.out,zq.set_,zx,jz,jq]) (zq.of_below hb g none) (.inl rfl));have NB0_101:=U.mk ((by rw[hg];exact Nat.ne_of_lt (kx.lt (show kx w0 _ g s0_0 s0_1 s0_2 from by repeat(first|(with_reducible first|exact HI0.out|apply kx.alloc|apply kx.drewN|apply kx.drew|apply kx.set_1|apply kx.set_2)|exact HI0.out))):g≠gb101));have NB101_0:=U.mk ((by rw[hg];exact Nat.ne_of_gt (kx.lt (show kx w0 _ g s0_0 s0_1 s0_2 from by repeat(first|(with_reducible first|exact HI0.out|apply kx.alloc|apply kx.drewN|apply kx.drew|apply kx.set_1|apply kx.set_2)|exact HI0.out))):gb101≠g));replace HI0:=U.mk (kx.below (by solve_by_elim (maxDepth:=20) only[HI0.out,kx.alloc,kx.drewN,kx.drew,kx.set_1,kx.set_2]) hb);clear hb hbox hg)|((with_reducible refine jw (f:=54) rfl ?_);refine goesL_ (some 4) rfl rfl Try.func54 (by kernel_rfl) rfl #[.pointer (some ⟨g,0,none⟩),.int .i64 9] rfl (by(try simp only[jq0,jq1,jq2]);first|done|rfl|(simp only[jq3,jq4];rfl)) ?_;(with_reducible refine(qjx.calls g s0_0 s0_1 s0_2 9 t102 t103 t104 w0 _ ?side1 ?side2 A2.out).mono ?_);(case side1=>repeat(first|(with_reducible first|exact HI0.out|apply kx.alloc|apply kx.drewN|apply kx.drew|apply kx.set_1|apply kx.set_2|refine kx.far ?_ NB0_101.out _)|exact HI0.out));(case side2=>repeat(first|(with_reducible first|exact HB.out|apply G|apply J|apply qq|refine qk ?_ (kx.ge HI0.out)|refine qk ?_ GE101.out)|exact HB.out));rintro e w6 ⟨rfl,hi,hb,hk⟩;refine⟨_,rfl,?_⟩;replace BK101:=U.mk (zq.blk hk (g':=gb101) (o:=.cells #[.int .i64 0,.int .i64 0,.string (⟨#[]⟩ : ByteArray),.string (⟨#[]⟩ : ByteArray)] 34 (0,0)) (by solve_by_elim only[BK101.out,qw,qx,qv]) NB101_0.out (by simp));replace HK:=U.mk (zq.trans (by solve_by_elim (maxDepth:=20) only[HK.out,zq.set_,zx,jz,jq,jj,GW101.out]) hk (.inl rfl));replace HB:=U.mk (hb);replace HI0:=U.mk (hi);(try clear hb hk hi))|((with_reducible refine jw (f:=54) rfl ?_);refine goesL_ (some 8) rfl rfl Try.func54 (by kernel_rfl) rfl #[.pointer (some ⟨g,0,none⟩),.int .i64 2] rfl (by(try simp only[jq0,jq1,jq2]);first|done|rfl|(simp only[jq3,jq4];rfl)) ?_;(with_reducible refine(qjx.calls g s0_0 t103 t104 2 t105 t106 t107 w0 _ ?side1 ?side2 A4.out).mono ?_);(case side1=>repeat(first|(with_reducible first|exact HI0.out|apply kx.alloc|apply kx.drewN|apply kx.drew|apply kx.set_1|apply kx.set_2|refine kx.far ?_ NB0_101.out _)|exact HI0.out));(case side2=>repeat(first|(with_reducible first|exact HB.out|apply G|apply J|apply qq|refine qk ?_ (kx.ge HI0.out)|refine qk ?_ GE101.out)|exact HB.out));rintro e w7 ⟨rfl,hi,hb,hk⟩;refine⟨_,rfl,?_⟩;replace BK101:=U.mk (zq.blk hk (g':=gb101) (o:=.cells #[.int .i64 0,.int .i64 0,.string (⟨#[]⟩ : ByteArray),.string (⟨#[]⟩ : ByteArray)] 34 (0,0)) (by solve_by_elim only[BK101.out,qw,qx,qv]) NB101_0.out (by simp));replace HK:=U.mk (zq.trans (by solve_by_elim (maxDepth:=20) only[HK.out,zq.set_,zx,jz,jq,jj,GW101.out]) hk (.inl rfl));replace HB:=U.mk (hb);replace HI0:=U.mk (hi);(try clear hb hk hi);have hnb8:=NB101_0.out;have hnc8:=NB0_101.out;have hcz9_0:w7.cell? ⟨gb101,0,none⟩ = some (.int .i64 0):=(qj BK101.out 0).trans rfl;have hcz9_1:w7.cell? ⟨gb101,1,none⟩ = some (.int .i64 0):=(qj BK101.out 1).trans rfl;have hcz9_2:w7.cell? ⟨gb101,2,none⟩ = some (.string (⟨#[]⟩ : ByteArray)):=(qj BK101.out 2).trans rfl;have hcz9_3:w7.cell? ⟨gb101,3,none⟩ = some (.string (⟨#[]⟩ : ByteArray)):=(qj BK101.out 3).trans rfl;have hfz9_0:=qz BK101.out 0;have hfz9_1:=qz BK101.out 1;have hfz9_2:=qz BK101.out 2;have hfz9_3:=qz BK101.out 3))
  refine bodyPost_ret (results_cell_row rfl _ _ gb101 34 #[.int .i64 1,.int .i64 t105,.string (⟨#[]⟩ : ByteArray),.string (⟨#[]⟩ : ByteArray)] (0,0) _ rfl (by(with_reducible repeat(first|refine qw ?_ _|refine qx ?_|refine qv ?_ _));refine blk_put (cs:=#[.int .i64 1,.int .i64 t105,.string (⟨#[]⟩ : ByteArray),.string (⟨#[]⟩ : ByteArray)]) ?_ 3 _ rfl;(with_reducible repeat(first|refine qw ?_ _|refine qx ?_|refine qv ?_ _));refine blk_put (cs:=#[.int .i64 1,.int .i64 t105,.string (⟨#[]⟩ : ByteArray),.string (⟨#[]⟩ : ByteArray)]) ?_ 2 _ rfl;(with_reducible repeat(first|refine qw ?_ _|refine qx ?_|refine qv ?_ _));refine blk_put (cs:=#[.int .i64 1,.int .i64 0,.string (⟨#[]⟩ : ByteArray),.string (⟨#[]⟩ : ByteArray)]) ?_ 1 _ rfl;(with_reducible repeat(first|refine qw ?_ _|refine qx ?_|refine qv ?_ _));refine blk_put (cs:=#[.int .i64 0,.int .i64 0,.string (⟨#[]⟩ : ByteArray),.string (⟨#[]⟩ : ByteArray)]) ?_ 0 _ rfl;(with_reducible repeat(first|refine qw ?_ _|refine qx ?_|refine qv ?_ _));exact BK101.out) Try.underlying34 rfl (by kernel_rfl)) rfl ?_
  exact⟨by first|rfl|(simp[*,jv,jk] <;> rfl),by repeat(first|(with_reducible first|exact HI0.out|apply kx.alloc|apply kx.drewN|apply kx.drew|apply kx.set_1|apply kx.set_2|refine kx.far ?_ NB0_101.out _)|exact HI0.out),by repeat(first|(with_reducible first|exact HB.out|apply G|apply J|apply qq|refine qk ?_ (kx.ge HI0.out)|refine qk ?_ GE101.out)|exact HB.out),by repeat(first|(with_reducible first|exact HK.out|apply zq.set_|apply zx|apply jz|apply jq|refine jj ?_ GW101.out _)|exact HK.out)⟩
 ·rw[if_neg c3] at H
  have c3b0:(t102 == 0)=false:=beq_eq_false_iff_ne.mpr c3
  have c3b1:(t102 != 0)=true:=bne_iff_ne.mpr c3
  by_cases c10:t102=1
  ·rw[if_pos c10] at H
   have c10b0:(t102 == 1)=true:=beq_iff_eq.mpr c10
   have c10b1:(t102 != 1)=false:=bne_eq_false_iff_eq.mpr c10
   clear c10
   replace H:=jq8.mp H
   obtain⟨⟨t108,t109,t110⟩,A110,H⟩:=H
   try dsimp only at H
   have A11:=U.mk A110
   clear A110
   simp only[Option.some.injEq,Prod.mk.injEq] at H
   obtain⟨rfl,rfl,rfl,rfl,rfl,rfl⟩:=H
   go_enter Try.func69,Try.ntmps69
   go_wp2_with (first|((with_reducible refine gate_dst (N:=2) rfl ?_);refine box_event ?hg (N:=2) ?hd (cs:=#[.int .i64 0,.int .i64 0,.string (⟨#[]⟩ : ByteArray),.string (⟨#[]⟩ : ByteArray)]) (t:=34) ?hr ?_;(case hd=>rfl);(case hg=>rfl);(case hr=>first|(go_simp;done)|(go_simp;rfl));intro gb101 hg w12 hbox hb;replace HB:=U.mk (zz (by solve_by_elim (maxDepth:=20) only[HB.out,G,J,qq,qk,(kx.ge HI0.out)]) hb);have BK101:=U.mk (hbox);have GW101:=U.mk ((by rw[hg];exact(keep_size (w:=w) (g:=g) (row:=none) (by solve_by_elim (maxDepth:=20) only[HK.out,zq.set_,zx,jz,jq])):w.heap.size≤gb101));have GE101:=U.mk ((Nat.le_trans HW0.out (by rw[hg];exact(keep_size (w:=w) (g:=g) (row:=none) (by solve_by_elim (maxDepth:=20) only[HK.out,zq.set_,zx,jz,jq])):w.heap.size≤gb101):w0.heap.size≤gb101));replace HK:=U.mk (zq.trans (by solve_by_elim (maxDepth:=20) only[HK.out,zq.set_,zx,jz,jq]) (zq.of_below hb g none) (.inl rfl));have NB0_101:=U.mk ((by rw[hg];exact Nat.ne_of_lt (kx.lt (show kx w0 _ g s0_0 s0_1 s0_2 from by repeat(first|(with_reducible first|exact HI0.out|apply kx.alloc|apply kx.drewN|apply kx.drew|apply kx.set_1|apply kx.set_2)|exact HI0.out))):g≠gb101));have NB101_0:=U.mk ((by rw[hg];exact Nat.ne_of_gt (kx.lt (show kx w0 _ g s0_0 s0_1 s0_2 from by repeat(first|(with_reducible first|exact HI0.out|apply kx.alloc|apply kx.drewN|apply kx.drew|apply kx.set_1|apply kx.set_2)|exact HI0.out))):gb101≠g));replace HI0:=U.mk (kx.below (by solve_by_elim (maxDepth:=20) only[HI0.out,kx.alloc,kx.drewN,kx.drew,kx.set_1,kx.set_2]) hb);clear hb hbox hg)|((with_reducible refine jw (f:=54) rfl ?_);refine goesL_ (some 4) rfl rfl Try.func54 (by kernel_rfl) rfl #[.pointer (some ⟨g,0,none⟩),.int .i64 9] rfl (by(try simp only[jq0,jq1,jq2]);first|done|rfl|(simp only[jq3,jq4];rfl)) ?_;(with_reducible refine(qjx.calls g s0_0 s0_1 s0_2 9 t102 t103 t104 w0 _ ?side1 ?side2 A2.out).mono ?_);(case side1=>repeat(first|(with_reducible first|exact HI0.out|apply kx.alloc|apply kx.drewN|apply kx.drew|apply kx.set_1|apply kx.set_2|refine kx.far ?_ NB0_101.out _)|exact HI0.out));(case side2=>repeat(first|(with_reducible first|exact HB.out|apply G|apply J|apply qq|refine qk ?_ (kx.ge HI0.out)|refine qk ?_ GE101.out)|exact HB.out));rintro e w13 ⟨rfl,hi,hb,hk⟩;refine⟨_,rfl,?_⟩;replace BK101:=U.mk (zq.blk hk (g':=gb101) (o:=.cells #[.int .i64 0,.int .i64 0,.string (⟨#[]⟩ : ByteArray),.string (⟨#[]⟩ : ByteArray)] 34 (0,0)) (by solve_by_elim only[BK101.out,qw,qx,qv]) NB101_0.out (by simp));replace HK:=U.mk (zq.trans (by solve_by_elim (maxDepth:=20) only[HK.out,zq.set_,zx,jz,jq,jj,GW101.out]) hk (.inl rfl));replace HB:=U.mk (hb);replace HI0:=U.mk (hi);(try clear hb hk hi))|((with_reducible refine jw (f:=54) rfl ?_);refine goesL_ (some 13) rfl rfl Try.func54 (by kernel_rfl) rfl #[.pointer (some ⟨g,0,none⟩),.int .i64 7] rfl (by(try simp only[jq0,jq1,jq2]);first|done|rfl|(simp only[jq3,jq4];rfl)) ?_;(with_reducible refine(qjx.calls g s0_0 t103 t104 7 t108 t109 t110 w0 _ ?side1 ?side2 A11.out).mono ?_);(case side1=>repeat(first|(with_reducible first|exact HI0.out|apply kx.alloc|apply kx.drewN|apply kx.drew|apply kx.set_1|apply kx.set_2|refine kx.far ?_ NB0_101.out _)|exact HI0.out));(case side2=>repeat(first|(with_reducible first|exact HB.out|apply G|apply J|apply qq|refine qk ?_ (kx.ge HI0.out)|refine qk ?_ GE101.out)|exact HB.out));rintro e w14 ⟨rfl,hi,hb,hk⟩;refine⟨_,rfl,?_⟩;replace BK101:=U.mk (zq.blk hk (g':=gb101) (o:=.cells #[.int .i64 0,.int .i64 0,.string (⟨#[]⟩ : ByteArray),.string (⟨#[]⟩ : ByteArray)] 34 (0,0)) (by solve_by_elim only[BK101.out,qw,qx,qv]) NB101_0.out (by simp));replace HK:=U.mk (zq.trans (by solve_by_elim (maxDepth:=20) only[HK.out,zq.set_,zx,jz,jq,jj,GW101.out]) hk (.inl rfl));replace HB:=U.mk (hb);replace HI0:=U.mk (hi);(try clear hb hk hi);have hnb15:=NB101_0.out;have hnc15:=NB0_101.out;have hcz16_0:w14.cell? ⟨gb101,0,none⟩ = some (.int .i64 0):=(qj BK101.out 0).trans rfl;have hcz16_1:w14.cell? ⟨gb101,1,none⟩ = some (.int .i64 0):=(qj BK101.out 1).trans rfl;have hcz16_2:w14.cell? ⟨gb101,2,none⟩ = some (.string (⟨#[]⟩ : ByteArray)):=(qj BK101.out 2).trans rfl;have hcz16_3:w14.cell? ⟨gb101,3,none⟩ = some (.string (⟨#[]⟩ : ByteArray)):=(qj BK101.out 3).trans rfl;have hfz16_0:=qz BK101.out 0;have hfz16_1:=qz BK101.out 1;have hfz16_2:=qz BK101.out 2;have hfz16_3:=qz BK101.out 3))
   refine bodyPost_ret (results_cell_row rfl _ _ gb101 34 #[.int .i64 2,.int .i64 (wrap64 (t108 - 3)),.string (⟨#[]⟩ : ByteArray),.string (⟨#[]⟩ : ByteArray)] (0,0) _ rfl (by(with_reducible repeat(first|refine qw ?_ _|refine qx ?_|refine qv ?_ _));refine blk_put (cs:=#[.int .i64 2,.int .i64 (wrap64 (t108 - 3)),.string (⟨#[]⟩ : ByteArray),.string (⟨#[]⟩ : ByteArray)]) ?_ 3 _ rfl;(with_reducible repeat(first|refine qw ?_ _|refine qx ?_|refine qv ?_ _));refine blk_put (cs:=#[.int .i64 2,.int .i64 (wrap64 (t108 - 3)),.string (⟨#[]⟩ : ByteArray),.string (⟨#[]⟩ : ByteArray)]) ?_ 2 _ rfl;(with_reducible repeat(first|refine qw ?_ _|refine qx ?_|refine qv ?_ _));refine blk_put (cs:=#[.int .i64 2,.int .i64 0,.string (⟨#[]⟩ : ByteArray),.string (⟨#[]⟩ : ByteArray)]) ?_ 1 _ rfl;(with_reducible repeat(first|refine qw ?_ _|refine qx ?_|refine qv ?_ _));refine blk_put (cs:=#[.int .i64 0,.int .i64 0,.string (⟨#[]⟩ : ByteArray),.string (⟨#[]⟩ : ByteArray)]) ?_ 0 _ rfl;(with_reducible repeat(first|refine qw ?_ _|refine qx ?_|refine qv ?_ _));exact BK101.out) Try.underlying34 rfl (by kernel_rfl)) rfl ?_
   exact⟨by first|rfl|(simp[*,jv,jk] <;> rfl),by repeat(first|(with_reducible first|exact HI0.out|apply kx.alloc|apply kx.drewN|apply kx.drew|apply kx.set_1|apply kx.set_2|refine kx.far ?_ NB0_101.out _)|exact HI0.out),by repeat(first|(with_reducible first|exact HB.out|apply G|apply J|apply qq|refine qk ?_ (kx.ge HI0.out)|refine qk ?_ GE101.out)|exact HB.out),by repeat(first|(with_reducible first|exact HK.out|apply zq.set_|apply zx|apply jz|apply jq|refine jj ?_ GW101.out _)|exact HK.out)⟩
  ·rw[if_neg c10] at H
   have c10b0:(t102 == 1)=false:=beq_eq_false_iff_ne.mpr c10
   have c10b1:(t102 != 1)=true:=bne_iff_ne.mpr c10
   by_cases c17:t102=2
   ·rw[if_pos c17] at H
    have c17b0:(t102 == 2)=true:=beq_iff_eq.mpr c17
    have c17b1:(t102 != 2)=false:=bne_eq_false_iff_eq.mpr c17
    clear c17
    replace H:=jq8.mp H
    obtain⟨⟨t111,t112,t113⟩,A180,H⟩:=H
    try dsimp only at H
    have A18:=U.mk A180
    clear A180
    simp only[Option.some.injEq,Prod.mk.injEq] at H
    obtain⟨rfl,rfl,rfl,rfl,rfl,rfl⟩:=H
    go_enter Try.func69,Try.ntmps69
    go_wp2_with (first|((with_reducible refine gate_dst (N:=2) rfl ?_);refine box_event ?hg (N:=2) ?hd (cs:=#[.int .i64 0,.int .i64 0,.string (⟨#[]⟩ : ByteArray),.string (⟨#[]⟩ : ByteArray)]) (t:=34) ?hr ?_;(case hd=>rfl);(case hg=>rfl);(case hr=>first|(go_simp;done)|(go_simp;rfl));intro gb101 hg w19 hbox hb;replace HB:=U.mk (zz (by solve_by_elim (maxDepth:=20) only[HB.out,G,J,qq,qk,(kx.ge HI0.out)]) hb);have BK101:=U.mk (hbox);have GW101:=U.mk ((by rw[hg];exact(keep_size (w:=w) (g:=g) (row:=none) (by solve_by_elim (maxDepth:=20) only[HK.out,zq.set_,zx,jz,jq])):w.heap.size≤gb101));have GE101:=U.mk ((Nat.le_trans HW0.out (by rw[hg];exact(keep_size (w:=w) (g:=g) (row:=none) (by solve_by_elim (maxDepth:=20) only[HK.out,zq.set_,zx,jz,jq])):w.heap.size≤gb101):w0.heap.size≤gb101));replace HK:=U.mk (zq.trans (by solve_by_elim (maxDepth:=20) only[HK.out,zq.set_,zx,jz,jq]) (zq.of_below hb g none) (.inl rfl));have NB0_101:=U.mk ((by rw[hg];exact Nat.ne_of_lt (kx.lt (show kx w0 _ g s0_0 s0_1 s0_2 from by repeat(first|(with_reducible first|exact HI0.out|apply kx.alloc|apply kx.drewN|apply kx.drew|apply kx.set_1|apply kx.set_2)|exact HI0.out))):g≠gb101));have NB101_0:=U.mk ((by rw[hg];exact Nat.ne_of_gt (kx.lt (show kx w0 _ g s0_0 s0_1 s0_2 from by repeat(first|(with_reducible first|exact HI0.out|apply kx.alloc|apply kx.drewN|apply kx.drew|apply kx.set_1|apply kx.set_2)|exact HI0.out))):gb101≠g));replace HI0:=U.mk (kx.below (by solve_by_elim (maxDepth:=20) only[HI0.out,kx.alloc,kx.drewN,kx.drew,kx.set_1,kx.set_2]) hb);clear hb hbox hg)|((with_reducible refine jw (f:=54) rfl ?_);refine goesL_ (some 4) rfl rfl Try.func54 (by kernel_rfl) rfl #[.pointer (some ⟨g,0,none⟩),.int .i64 9] rfl (by(try simp only[jq0,jq1,jq2]);first|done|rfl|(simp only[jq3,jq4];rfl)) ?_;(with_reducible refine(qjx.calls g s0_0 s0_1 s0_2 9 t102 t103 t104 w0 _ ?side1 ?side2 A2.out).mono ?_);(case side1=>repeat(first|(with_reducible first|exact HI0.out|apply kx.alloc|apply kx.drewN|apply kx.drew|apply kx.set_1|apply kx.set_2|refine kx.far ?_ NB0_101.out _)|exact HI0.out));(case side2=>repeat(first|(with_reducible first|exact HB.out|apply G|apply J|apply qq|refine qk ?_ (kx.ge HI0.out)|refine qk ?_ GE101.out)|exact HB.out));rintro e w20 ⟨rfl,hi,hb,hk⟩;refine⟨_,rfl,?_⟩;replace BK101:=U.mk (zq.blk hk (g':=gb101) (o:=.cells #[.int .i64 0,.int .i64 0,.string (⟨#[]⟩ : ByteArray),.string (⟨#[]⟩ : ByteArray)] 34 (0,0)) (by solve_by_elim only[BK101.out,qw,qx,qv]) NB101_0.out (by simp));replace HK:=U.mk (zq.trans (by solve_by_elim (maxDepth:=20) only[HK.out,zq.set_,zx,jz,jq,jj,GW101.out]) hk (.inl rfl));replace HB:=U.mk (hb);replace HI0:=U.mk (hi);(try clear hb hk hi))|((with_reducible refine jw (f:=126) rfl ?_);refine goesL_ (some 19) rfl rfl Try.func126 (by kernel_rfl) rfl #[.pointer (some ⟨g,0,none⟩)] rfl (by(try simp only[jq0,jq1,jq2]);first|done|rfl|(simp only[jq3,jq4];rfl)) ?_;(with_reducible refine(qkz.calls k g s0_0 t103 t104 t111 t112 t113 w0 _ ?side1 ?side2 A18.out).mono ?_);(case side1=>repeat(first|(with_reducible first|exact HI0.out|apply kx.alloc|apply kx.drewN|apply kx.drew|apply kx.set_1|apply kx.set_2|refine kx.far ?_ NB0_101.out _)|exact HI0.out));(case side2=>repeat(first|(with_reducible first|exact HB.out|apply G|apply J|apply qq|refine qk ?_ (kx.ge HI0.out)|refine qk ?_ GE101.out)|exact HB.out));rintro e w21 ⟨rfl,hi,hb,hk⟩;refine⟨_,rfl,?_⟩;replace BK101:=U.mk (zq.blk hk (g':=gb101) (o:=.cells #[.int .i64 0,.int .i64 0,.string (⟨#[]⟩ : ByteArray),.string (⟨#[]⟩ : ByteArray)] 34 (0,0)) (by solve_by_elim only[BK101.out,qw,qx,qv]) NB101_0.out (by simp));replace HK:=U.mk (zq.trans (by solve_by_elim (maxDepth:=20) only[HK.out,zq.set_,zx,jz,jq,jj,GW101.out]) hk (.inl rfl));replace HB:=U.mk (hb);replace HI0:=U.mk (hi);(try clear hb hk hi);have hnb22:=NB101_0.out;have hnc22:=NB0_101.out;have hcz23_0:w21.cell? ⟨gb101,0,none⟩ = some (.int .i64 0):=(qj BK101.out 0).trans rfl;have hcz23_1:w21.cell? ⟨gb101,1,none⟩ = some (.int .i64 0):=(qj BK101.out 1).trans rfl;have hcz23_2:w21.cell? ⟨gb101,2,none⟩ = some (.string (⟨#[]⟩ : ByteArray)):=(qj BK101.out 2).trans rfl;have hcz23_3:w21.cell? ⟨gb101,3,none⟩ = some (.string (⟨#[]⟩ : ByteArray)):=(qj BK101.out 3).trans rfl;have hfz23_0:=qz BK101.out 0;have hfz23_1:=qz BK101.out 1;have hfz23_2:=qz BK101.out 2;have hfz23_3:=qz BK101.out 3))
    refine bodyPost_ret (results_cell_row rfl _ _ gb101 34 #[.int .i64 2,.int .i64 t111,.string (⟨#[]⟩ : ByteArray),.string (⟨#[]⟩ : ByteArray)] (0,0) _ rfl (by(with_reducible repeat(first|refine qw ?_ _|refine qx ?_|refine qv ?_ _));refine blk_put (cs:=#[.int .i64 2,.int .i64 t111,.string (⟨#[]⟩ : ByteArray),.string (⟨#[]⟩ : ByteArray)]) ?_ 3 _ rfl;(with_reducible repeat(first|refine qw ?_ _|refine qx ?_|refine qv ?_ _));refine blk_put (cs:=#[.int .i64 2,.int .i64 t111,.string (⟨#[]⟩ : ByteArray),.string (⟨#[]⟩ : ByteArray)]) ?_ 2 _ rfl;(with_reducible repeat(first|refine qw ?_ _|refine qx ?_|refine qv ?_ _));refine blk_put (cs:=#[.int .i64 2,.int .i64 0,.string (⟨#[]⟩ : ByteArray),.string (⟨#[]⟩ : ByteArray)]) ?_ 1 _ rfl;(with_reducible repeat(first|refine qw ?_ _|refine qx ?_|refine qv ?_ _));refine blk_put (cs:=#[.int .i64 0,.int .i64 0,.string (⟨#[]⟩ : ByteArray),.string (⟨#[]⟩ : ByteArray)]) ?_ 0 _ rfl;(with_reducible repeat(first|refine qw ?_ _|refine qx ?_|refine qv ?_ _));exact BK101.out) Try.underlying34 rfl (by kernel_rfl)) rfl ?_
    exact⟨by first|rfl|(simp[*,jv,jk] <;> rfl),by repeat(first|(with_reducible first|exact HI0.out|apply kx.alloc|apply kx.drewN|apply kx.drew|apply kx.set_1|apply kx.set_2|refine kx.far ?_ NB0_101.out _)|exact HI0.out),by repeat(first|(with_reducible first|exact HB.out|apply G|apply J|apply qq|refine qk ?_ (kx.ge HI0.out)|refine qk ?_ GE101.out)|exact HB.out),by repeat(first|(with_reducible first|exact HK.out|apply zq.set_|apply zx|apply jz|apply jq|refine jj ?_ GW101.out _)|exact HK.out)⟩
   ·rw[if_neg c17] at H
    have c17b0:(t102 == 2)=false:=beq_eq_false_iff_ne.mpr c17
    have c17b1:(t102 != 2)=true:=bne_iff_ne.mpr c17
    by_cases c24:t102=3
    ·rw[if_pos c24] at H
     have c24b0:(t102 == 3)=true:=beq_iff_eq.mpr c24
     have c24b1:(t102 != 3)=false:=bne_eq_false_iff_eq.mpr c24
     clear c24
     replace H:=jq8.mp H
     obtain⟨⟨t114,t115,t116⟩,A250,H⟩:=H
     try dsimp only at H
     have A25:=U.mk A250
     clear A250
     simp only[Option.some.injEq,Prod.mk.injEq] at H
     obtain⟨rfl,rfl,rfl,rfl,rfl,rfl⟩:=H
     go_enter Try.func69,Try.ntmps69
     go_wp2_with (first|((with_reducible refine gate_dst (N:=2) rfl ?_);refine box_event ?hg (N:=2) ?hd (cs:=#[.int .i64 0,.int .i64 0,.string (⟨#[]⟩ : ByteArray),.string (⟨#[]⟩ : ByteArray)]) (t:=34) ?hr ?_;(case hd=>rfl);(case hg=>rfl);(case hr=>first|(go_simp;done)|(go_simp;rfl));intro gb101 hg w26 hbox hb;replace HB:=U.mk (zz (by solve_by_elim (maxDepth:=20) only[HB.out,G,J,qq,qk,(kx.ge HI0.out)]) hb);have BK101:=U.mk (hbox);have GW101:=U.mk ((by rw[hg];exact(keep_size (w:=w) (g:=g) (row:=none) (by solve_by_elim (maxDepth:=20) only[HK.out,zq.set_,zx,jz,jq])):w.heap.size≤gb101));have GE101:=U.mk ((Nat.le_trans HW0.out (by rw[hg];exact(keep_size (w:=w) (g:=g) (row:=none) (by solve_by_elim (maxDepth:=20) only[HK.out,zq.set_,zx,jz,jq])):w.heap.size≤gb101):w0.heap.size≤gb101));replace HK:=U.mk (zq.trans (by solve_by_elim (maxDepth:=20) only[HK.out,zq.set_,zx,jz,jq]) (zq.of_below hb g none) (.inl rfl));have NB0_101:=U.mk ((by rw[hg];exact Nat.ne_of_lt (kx.lt (show kx w0 _ g s0_0 s0_1 s0_2 from by repeat(first|(with_reducible first|exact HI0.out|apply kx.alloc|apply kx.drewN|apply kx.drew|apply kx.set_1|apply kx.set_2)|exact HI0.out))):g≠gb101));have NB101_0:=U.mk ((by rw[hg];exact Nat.ne_of_gt (kx.lt (show kx w0 _ g s0_0 s0_1 s0_2 from by repeat(first|(with_reducible first|exact HI0.out|apply kx.alloc|apply kx.drewN|apply kx.drew|apply kx.set_1|apply kx.set_2)|exact HI0.out))):gb101≠g));replace HI0:=U.mk (kx.below (by solve_by_elim (maxDepth:=20) only[HI0.out,kx.alloc,kx.drewN,kx.drew,kx.set_1,kx.set_2]) hb);clear hb hbox hg)|((with_reducible refine jw (f:=54) rfl ?_);refine goesL_ (some 4) rfl rfl Try.func54 (by kernel_rfl) rfl #[.pointer (some ⟨g,0,none⟩),.int .i64 9] rfl (by(try simp only[jq0,jq1,jq2]);first|done|rfl|(simp only[jq3,jq4];rfl)) ?_;(with_reducible refine(qjx.calls g s0_0 s0_1 s0_2 9 t102 t103 t104 w0 _ ?side1 ?side2 A2.out).mono ?_);(case side1=>repeat(first|(with_reducible first|exact HI0.out|apply kx.alloc|apply kx.drewN|apply kx.drew|apply kx.set_1|apply kx.set_2|refine kx.far ?_ NB0_101.out _)|exact HI0.out));(case side2=>repeat(first|(with_reducible first|exact HB.out|apply G|apply J|apply qq|refine qk ?_ (kx.ge HI0.out)|refine qk ?_ GE101.out)|exact HB.out));rintro e w27 ⟨rfl,hi,hb,hk⟩;refine⟨_,rfl,?_⟩;replace BK101:=U.mk (zq.blk hk (g':=gb101) (o:=.cells #[.int .i64 0,.int .i64 0,.string (⟨#[]⟩ : ByteArray),.string (⟨#[]⟩ : ByteArray)] 34 (0,0)) (by solve_by_elim only[BK101.out,qw,qx,qv]) NB101_0.out (by simp));replace HK:=U.mk (zq.trans (by solve_by_elim (maxDepth:=20) only[HK.out,zq.set_,zx,jz,jq,jj,GW101.out]) hk (.inl rfl));replace HB:=U.mk (hb);replace HI0:=U.mk (hi);(try clear hb hk hi))|((with_reducible refine jw (f:=127) rfl ?_);refine goesL_ (some 24) rfl rfl Try.func127 (by kernel_rfl) rfl #[.pointer (some ⟨g,0,none⟩)] rfl (by(try simp only[jq0,jq1,jq2]);first|done|rfl|(simp only[jq3,jq4];rfl)) ?_;(with_reducible refine(qkq.calls k g s0_0 t103 t104 t114 t115 t116 w0 _ ?side1 ?side2 A25.out).mono ?_);(case side1=>repeat(first|(with_reducible first|exact HI0.out|apply kx.alloc|apply kx.drewN|apply kx.drew|apply kx.set_1|apply kx.set_2|refine kx.far ?_ NB0_101.out _)|exact HI0.out));(case side2=>repeat(first|(with_reducible first|exact HB.out|apply G|apply J|apply qq|refine qk ?_ (kx.ge HI0.out)|refine qk ?_ GE101.out)|exact HB.out));rintro e w28 ⟨rfl,hi,hb,hk⟩;refine⟨_,rfl,?_⟩;replace BK101:=U.mk (zq.blk hk (g':=gb101) (o:=.cells #[.int .i64 0,.int .i64 0,.string (⟨#[]⟩ : ByteArray),.string (⟨#[]⟩ : ByteArray)] 34 (0,0)) (by solve_by_elim only[BK101.out,qw,qx,qv]) NB101_0.out (by simp));replace HK:=U.mk (zq.trans (by solve_by_elim (maxDepth:=20) only[HK.out,zq.set_,zx,jz,jq,jj,GW101.out]) hk (.inl rfl));replace HB:=U.mk (hb);replace HI0:=U.mk (hi);(try clear hb hk hi);have hnb29:=NB101_0.out;have hnc29:=NB0_101.out;have hcz30_0:w28.cell? ⟨gb101,0,none⟩ = some (.int .i64 0):=(qj BK101.out 0).trans rfl;have hcz30_1:w28.cell? ⟨gb101,1,none⟩ = some (.int .i64 0):=(qj BK101.out 1).trans rfl;have hcz30_2:w28.cell? ⟨gb101,2,none⟩ = some (.string (⟨#[]⟩ : ByteArray)):=(qj BK101.out 2).trans rfl;have hcz30_3:w28.cell? ⟨gb101,3,none⟩ = some (.string (⟨#[]⟩ : ByteArray)):=(qj BK101.out 3).trans rfl;have hfz30_0:=qz BK101.out 0;have hfz30_1:=qz BK101.out 1;have hfz30_2:=qz BK101.out 2;have hfz30_3:=qz BK101.out 3))
     refine bodyPost_ret (results_cell_row rfl _ _ gb101 34 #[.int .i64 3,.int .i64 0,.string t114,.string (⟨#[]⟩ : ByteArray)] (0,0) _ rfl (by(with_reducible repeat(first|refine qw ?_ _|refine qx ?_|refine qv ?_ _));refine blk_put (cs:=#[.int .i64 3,.int .i64 0,.string t114,.string (⟨#[]⟩ : ByteArray)]) ?_ 3 _ rfl;(with_reducible repeat(first|refine qw ?_ _|refine qx ?_|refine qv ?_ _));refine blk_put (cs:=#[.int .i64 3,.int .i64 0,.string (⟨#[]⟩ : ByteArray),.string (⟨#[]⟩ : ByteArray)]) ?_ 2 _ rfl;(with_reducible repeat(first|refine qw ?_ _|refine qx ?_|refine qv ?_ _));refine blk_put (cs:=#[.int .i64 3,.int .i64 0,.string (⟨#[]⟩ : ByteArray),.string (⟨#[]⟩ : ByteArray)]) ?_ 1 _ rfl;(with_reducible repeat(first|refine qw ?_ _|refine qx ?_|refine qv ?_ _));refine blk_put (cs:=#[.int .i64 0,.int .i64 0,.string (⟨#[]⟩ : ByteArray),.string (⟨#[]⟩ : ByteArray)]) ?_ 0 _ rfl;(with_reducible repeat(first|refine qw ?_ _|refine qx ?_|refine qv ?_ _));exact BK101.out) Try.underlying34 rfl (by kernel_rfl)) rfl ?_
     exact⟨by first|rfl|(simp[*,jv,jk] <;> rfl),by repeat(first|(with_reducible first|exact HI0.out|apply kx.alloc|apply kx.drewN|apply kx.drew|apply kx.set_1|apply kx.set_2|refine kx.far ?_ NB0_101.out _)|exact HI0.out),by repeat(first|(with_reducible first|exact HB.out|apply G|apply J|apply qq|refine qk ?_ (kx.ge HI0.out)|refine qk ?_ GE101.out)|exact HB.out),by repeat(first|(with_reducible first|exact HK.out|apply zq.set_|apply zx|apply jz|apply jq|refine jj ?_ GW101.out _)|exact HK.out)⟩
    ·rw[if_neg c24] at H
     have c24b0:(t102 == 3)=false:=beq_eq_false_iff_ne.mpr c24
     have c24b1:(t102 != 3)=true:=bne_iff_ne.mpr c24
     by_cases c31:t102=4
     ·rw[if_pos c31] at H
      have c31b0:(t102 == 4)=true:=beq_iff_eq.mpr c31
      have c31b1:(t102 != 4)=false:=bne_eq_false_iff_eq.mpr c31
      clear c31
      obtain⟨y117,hy117⟩ : ∃ y_:List ByteArray,y_=(([(⟨#[85,115,101,114]⟩ : ByteArray),(⟨#[68,111,99]⟩ : ByteArray),(⟨#[95,103,49]⟩ : ByteArray)]:List ByteArray)):=⟨_,rfl⟩
      replace H:((qjv.f s0_0 t103 t104 y117).bind fun bt120=>((qjv.f s0_0 bt120.2.1 bt120.2.2 (([(⟨#[97,110,110]⟩ : ByteArray),(⟨#[98,111,98]⟩ : ByteArray),(⟨#[97,32,98]⟩ : ByteArray),(⟨#[120,34,121]⟩ : ByteArray),(⟨#[92]⟩ : ByteArray)]:List ByteArray))).bind fun bt126=>(some (4,0,bt126.1,bt120.1,bt126.2.1,bt126.2.2))))=some (r1,r2,r3,r4,r5,r6):=by first|(rw[hy117];with_reducible exact H)|(have H2_:=(Option.bind_some _ _).symm.trans H;rw[hy117];with_reducible exact H2_)|(have H2_:=(Option.bind_some _ _).symm.trans H;with_reducible exact H2_)|with_reducible exact H|(rw[hy117];exact H)|exact H
      have Ny117:=U.mk hy117
      clear hy117
      replace H:=jq8.mp H
      obtain⟨⟨t120,t121,t122⟩,A320,H⟩:=H
      try dsimp only at H
      have A32:=U.mk A320
      clear A320
      obtain⟨y123,hy123⟩ : ∃ y_:List ByteArray,y_=(([(⟨#[97,110,110]⟩ : ByteArray),(⟨#[98,111,98]⟩ : ByteArray),(⟨#[97,32,98]⟩ : ByteArray),(⟨#[120,34,121]⟩ : ByteArray),(⟨#[92]⟩ : ByteArray)]:List ByteArray)):=⟨_,rfl⟩
      replace H:((qjv.f s0_0 t121 t122 y123).bind fun bt126=>(some (4,0,bt126.1,t120,bt126.2.1,bt126.2.2)))=some (r1,r2,r3,r4,r5,r6):=by first|(rw[hy123];with_reducible exact H)|(have H2_:=(Option.bind_some _ _).symm.trans H;rw[hy123];with_reducible exact H2_)|(have H2_:=(Option.bind_some _ _).symm.trans H;with_reducible exact H2_)|with_reducible exact H|(rw[hy123];exact H)|exact H
      have Ny123:=U.mk hy123
      clear hy123
      replace H:=jq8.mp H
      obtain⟨⟨t126,t127,t128⟩,A330,H⟩:=H
      try dsimp only at H
      have A33:=U.mk A330
      clear A330
      simp only[Option.some.injEq,Prod.mk.injEq] at H
      obtain⟨rfl,rfl,rfl,rfl,rfl,rfl⟩:=H
      go_enter Try.func69,Try.ntmps69
      go_wp2_with (first|((with_reducible refine gate_dst (N:=2) rfl ?_);refine box_event ?hg (N:=2) ?hd (cs:=#[.int .i64 0,.int .i64 0,.string (⟨#[]⟩ : ByteArray),.string (⟨#[]⟩ : ByteArray)]) (t:=34) ?hr ?_;(case hd=>rfl);(case hg=>rfl);(case hr=>first|(go_simp;done)|(go_simp;rfl));intro gb101 hg w34 hbox hb;replace HB:=U.mk (zz (by solve_by_elim (maxDepth:=20) only[HB.out,G,J,qq,qk,(kx.ge HI0.out)]) hb);have BK101:=U.mk (hbox);have GW101:=U.mk ((by rw[hg];exact(keep_size (w:=w) (g:=g) (row:=none) (by solve_by_elim (maxDepth:=20) only[HK.out,zq.set_,zx,jz,jq])):w.heap.size≤gb101));have GE101:=U.mk ((Nat.le_trans HW0.out (by rw[hg];exact(keep_size (w:=w) (g:=g) (row:=none) (by solve_by_elim (maxDepth:=20) only[HK.out,zq.set_,zx,jz,jq])):w.heap.size≤gb101):w0.heap.size≤gb101));replace HK:=U.mk (zq.trans (by solve_by_elim (maxDepth:=20) only[HK.out,zq.set_,zx,jz,jq]) (zq.of_below hb g none) (.inl rfl));have NB0_101:=U.mk ((by rw[hg];exact Nat.ne_of_lt (kx.lt (show kx w0 _ g s0_0 s0_1 s0_2 from by repeat(first|(with_reducible first|exact HI0.out|apply kx.alloc|apply kx.drewN|apply kx.drew|apply kx.set_1|apply kx.set_2)|exact HI0.out))):g≠gb101));have NB101_0:=U.mk ((by rw[hg];exact Nat.ne_of_gt (kx.lt (show kx w0 _ g s0_0 s0_1 s0_2 from by repeat(first|(with_reducible first|exact HI0.out|apply kx.alloc|apply kx.drewN|apply kx.drew|apply kx.set_1|apply kx.set_2)|exact HI0.out))):gb101≠g));replace HI0:=U.mk (kx.below (by solve_by_elim (maxDepth:=20) only[HI0.out,kx.alloc,kx.drewN,kx.drew,kx.set_1,kx.set_2]) hb);clear hb hbox hg)|((with_reducible refine jw (f:=54) rfl ?_);refine goesL_ (some 4) rfl rfl Try.func54 (by kernel_rfl) rfl #[.pointer (some ⟨g,0,none⟩),.int .i64 9] rfl (by(try simp only[jq0,jq1,jq2]);first|done|rfl|(simp only[jq3,jq4];rfl)) ?_;(with_reducible refine(qjx.calls g s0_0 s0_1 s0_2 9 t102 t103 t104 w0 _ ?side1 ?side2 A2.out).mono ?_);(case side1=>repeat(first|(with_reducible first|exact HI0.out|apply kx.alloc|apply kx.drewN|apply kx.drew|apply kx.set_1|apply kx.set_2|refine kx.far ?_ NB0_101.out _)|exact HI0.out));(case side2=>repeat(first|(with_reducible first|exact HB.out|apply G|apply J|apply qq|refine qk ?_ (kx.ge HI0.out)|refine qk ?_ GE101.out)|exact HB.out));rintro e w35 ⟨rfl,hi,hb,hk⟩;refine⟨_,rfl,?_⟩;replace BK101:=U.mk (zq.blk hk (g':=gb101) (o:=.cells #[.int .i64 0,.int .i64 0,.string (⟨#[]⟩ : ByteArray),.string (⟨#[]⟩ : ByteArray)] 34 (0,0)) (by solve_by_elim only[BK101.out,qw,qx,qv]) NB101_0.out (by simp));replace HK:=U.mk (zq.trans (by solve_by_elim (maxDepth:=20) only[HK.out,zq.set_,zx,jz,jq,jj,GW101.out]) hk (.inl rfl));replace HB:=U.mk (hb);replace HI0:=U.mk (hi);(try clear hb hk hi))|((with_reducible refine gate_dst (N:=29) rfl ?_);refine Kd.R_lit Kd.string _ 9 ?hg (N:=29) ?hd (xs:=([(⟨#[85,115,101,114]⟩ : ByteArray),(⟨#[68,111,99]⟩ : ByteArray),(⟨#[95,103,49]⟩ : ByteArray)]:List ByteArray)) (inner:=[.string (⟨#[85,115,101,114]⟩ : ByteArray),.string (⟨#[68,111,99]⟩ : ByteArray),.string (⟨#[95,103,49]⟩ : ByteArray)]) (ok:=fun _=>True) (okp:=fun _=>True) ?hr ?hp (fun _ hk=>hk) trivial (Below.refl _ _) (Nat.le_refl _) (by simp) ?_;(case hd=>rfl);(case hg=>rfl);(case hr=>first|(go_simp;done)|(go_simp;rfl));(case hp=>exact(Reps.one (show Kd.M Kd.string _ _ _ (⟨#[85,115,101,114]⟩ : ByteArray) [.string (⟨#[85,115,101,114]⟩ : ByteArray)] from rfl) (Reps.one (show Kd.M Kd.string _ _ _ (⟨#[68,111,99]⟩ : ByteArray) [.string (⟨#[68,111,99]⟩ : ByteArray)] from rfl) (Reps.one (show Kd.M Kd.string _ _ _ (⟨#[95,103,49]⟩ : ByteArray) [.string (⟨#[95,103,49]⟩ : ByteArray)] from rfl) (Reps.none _ _)))));intro v118 w36 ho37 hb hg_ hnew_;clear hg_ hnew_;(first|rw[← Ny117.out] at ho37|(simp only[Int.reduceToNat] at ho37;rw[← Ny117.out] at ho37));have HO119:=U.mk (Kd.R_lower ho37 (keep_size (w:=w) (g:=g) (row:=none) (by solve_by_elim (maxDepth:=20) only[HK.out,zq.set_,zx,jz,jq,jj,GW101.out])));replace BK101:=U.mk (kv (g:=gb101) (o:=.cells #[.int .i64 0,.int .i64 0,.string (⟨#[]⟩ : ByteArray),.string (⟨#[]⟩ : ByteArray)] 34 (0,0)) (by solve_by_elim only[BK101.out,qw,qx,qv]) hb);replace HK:=U.mk (zq.trans (by solve_by_elim (maxDepth:=20) only[HK.out,zq.set_,zx,jz,jq,jj,GW101.out]) (zq.of_below hb g none) (.inl rfl));replace HB:=U.mk (zz (by solve_by_elim (maxDepth:=20) only[HB.out,G,J,qq,qk,(kx.ge HI0.out),qk,GE101.out]) hb);replace HI0:=U.mk (kx.below (by solve_by_elim (maxDepth:=20) only[HI0.out,kx.alloc,kx.drewN,kx.drew,kx.set_1,kx.set_2,kx.far,NB0_101.out]) hb);clear hb ho37;obtain⟨Ao38,co38,eo38⟩:=Kd.R_slice HO119.out;subst eo38)|((with_reducible refine jw (f:=55) rfl ?_);refine goesL_ (some 30) rfl rfl Try.func55 (by kernel_rfl) rfl #[.pointer (some ⟨g,0,none⟩),.slice Ao38 y117.length co38] rfl (by(try simp only[jq0,jq1,jq2]);first|done|rfl|(simp only[jq3,jq4];rfl)) ?_;(with_reducible refine(qjv.calls g s0_0 t103 t104 _ _ y117 t120 t121 t122 w0 _ ?side1 ?side2 ?side3 ?side4 ?side5 A32.out).mono ?_);(case side1=>repeat(first|(with_reducible first|exact HI0.out|apply kx.alloc|apply kx.drewN|apply kx.drew|apply kx.set_1|apply kx.set_2|refine kx.far ?_ NB0_101.out _)|exact HI0.out));(case side2=>repeat(first|(with_reducible first|exact HB.out|apply G|apply J|apply qq|refine qk ?_ (kx.ge HI0.out)|refine qk ?_ GE101.out)|exact HB.out));(case side3=>solve_by_elim only[(Kd.R_reads' HO119.out).2.2,Kd.C_alloc,Kd.C_drewN,Kd.C_drew]);(case side4=>exact(Kd.R_reads' HO119.out).2.1);(case side5=>exact far_slice (kx.own_ne HI0.out HO119.out (by decide)));rintro e w39 ⟨rfl,hi,hb,hk⟩;refine⟨_,rfl,?_⟩;replace BK101:=U.mk (zq.blk hk (g':=gb101) (o:=.cells #[.int .i64 0,.int .i64 0,.string (⟨#[]⟩ : ByteArray),.string (⟨#[]⟩ : ByteArray)] 34 (0,0)) (by solve_by_elim only[BK101.out,qw,qx,qv]) NB101_0.out (by simp));replace HO119:=U.mk (Kd.R_mono (Kd.R_keep (kx.apart (show kx w0 _ g s0_0 t103 t104 from by repeat(first|(with_reducible first|exact HI0.out|apply kx.alloc|apply kx.drewN|apply kx.drew|apply kx.set_1|apply kx.set_2|refine kx.far ?_ NB0_101.out _)|exact HI0.out)) (by solve_by_elim only[HO119.out,Kd.zv,Kd.zk,Kd.zw]) (by decide)) hk (fun _ h=>h.2)) (fun _ h=>h.1));replace HK:=U.mk (zq.trans (by solve_by_elim (maxDepth:=20) only[HK.out,zq.set_,zx,jz,jq,jj,GW101.out]) hk (.inl rfl));replace HB:=U.mk (hb);replace HI0:=U.mk (hi);(try clear hb hk hi))|((with_reducible refine gate_dst (N:=32) rfl ?_);refine Kd.R_lit Kd.string _ 9 ?hg (N:=32) ?hd (xs:=([(⟨#[97,110,110]⟩ : ByteArray),(⟨#[98,111,98]⟩ : ByteArray),(⟨#[97,32,98]⟩ : ByteArray),(⟨#[120,34,121]⟩ : ByteArray),(⟨#[92]⟩ : ByteArray)]:List ByteArray)) (inner:=[.string (⟨#[97,110,110]⟩ : ByteArray),.string (⟨#[98,111,98]⟩ : ByteArray),.string (⟨#[97,32,98]⟩ : ByteArray),.string (⟨#[120,34,121]⟩ : ByteArray),.string (⟨#[92]⟩ : ByteArray)]) (ok:=fun _=>True) (okp:=fun _=>True) ?hr ?hp (fun _ hk=>hk) trivial (Below.refl _ _) (Nat.le_refl _) (by simp) ?_;(case hd=>rfl);(case hg=>rfl);(case hr=>first|(go_simp;done)|(go_simp;rfl));(case hp=>exact(Reps.one (show Kd.M Kd.string _ _ _ (⟨#[97,110,110]⟩ : ByteArray) [.string (⟨#[97,110,110]⟩ : ByteArray)] from rfl) (Reps.one (show Kd.M Kd.string _ _ _ (⟨#[98,111,98]⟩ : ByteArray) [.string (⟨#[98,111,98]⟩ : ByteArray)] from rfl) (Reps.one (show Kd.M Kd.string _ _ _ (⟨#[97,32,98]⟩ : ByteArray) [.string (⟨#[97,32,98]⟩ : ByteArray)] from rfl) (Reps.one (show Kd.M Kd.string _ _ _ (⟨#[120,34,121]⟩ : ByteArray) [.string (⟨#[120,34,121]⟩ : ByteArray)] from rfl) (Reps.one (show Kd.M Kd.string _ _ _ (⟨#[92]⟩ : ByteArray) [.string (⟨#[92]⟩ : ByteArray)] from rfl) (Reps.none _ _)))))));intro v124 w40 ho41 hb hg_ hnew_;clear hg_ hnew_;(first|rw[← Ny123.out] at ho41|(simp only[Int.reduceToNat] at ho41;rw[← Ny123.out] at ho41));have HO125:=U.mk (Kd.R_lower (Kd.R_new' ho41 (Kd.R_lt (by solve_by_elim only[HO119.out,Kd.zv,Kd.zk,Kd.zw]))) (keep_size (w:=w) (g:=g) (row:=none) (by solve_by_elim (maxDepth:=20) only[HK.out,zq.set_,zx,jz,jq,jj,GW101.out])));replace HO119:=U.mk (Kd.R_elder' (by solve_by_elim only[HO119.out,Kd.zv,Kd.zk,Kd.zw]) (Kd.R_base ho41) hb);replace BK101:=U.mk (kv (g:=gb101) (o:=.cells #[.int .i64 0,.int .i64 0,.string (⟨#[]⟩ : ByteArray),.string (⟨#[]⟩ : ByteArray)] 34 (0,0)) (by solve_by_elim only[BK101.out,qw,qx,qv]) hb);replace HK:=U.mk (zq.trans (by solve_by_elim (maxDepth:=20) only[HK.out,zq.set_,zx,jz,jq,jj,GW101.out]) (zq.of_below hb g none) (.inl rfl));replace HB:=U.mk (zz (by solve_by_elim (maxDepth:=20) only[HB.out,G,J,qq,qk,(kx.ge HI0.out),qk,GE101.out]) hb);replace HI0:=U.mk (kx.below (by solve_by_elim (maxDepth:=20) only[HI0.out,kx.alloc,kx.drewN,kx.drew,kx.set_1,kx.set_2,kx.far,NB0_101.out]) hb);clear hb ho41;obtain⟨Ao42,co42,eo42⟩:=Kd.R_slice HO125.out;subst eo42)|((with_reducible refine jw (f:=55) rfl ?_);refine goesL_ (some 33) rfl rfl Try.func55 (by kernel_rfl) rfl #[.pointer (some ⟨g,0,none⟩),.slice Ao42 y123.length co42] rfl (by(try simp only[jq0,jq1,jq2]);first|done|rfl|(simp only[jq3,jq4];rfl)) ?_;(with_reducible refine(qjv.calls g s0_0 t121 t122 _ _ y123 t126 t127 t128 w0 _ ?side1 ?side2 ?side3 ?side4 ?side5 A33.out).mono ?_);(case side1=>repeat(first|(with_reducible first|exact HI0.out|apply kx.alloc|apply kx.drewN|apply kx.drew|apply kx.set_1|apply kx.set_2|refine kx.far ?_ NB0_101.out _)|exact HI0.out));(case side2=>repeat(first|(with_reducible first|exact HB.out|apply G|apply J|apply qq|refine qk ?_ (kx.ge HI0.out)|refine qk ?_ GE101.out)|exact HB.out));(case side3=>solve_by_elim only[(Kd.R_reads' HO125.out).2.2,Kd.C_alloc,Kd.C_drewN,Kd.C_drew]);(case side4=>exact(Kd.R_reads' HO125.out).2.1);(case side5=>exact far_slice (kx.own_ne HI0.out HO125.out (by decide)));rintro e w43 ⟨rfl,hi,hb,hk⟩;refine⟨_,rfl,?_⟩;replace BK101:=U.mk (zq.blk hk (g':=gb101) (o:=.cells #[.int .i64 0,.int .i64 0,.string (⟨#[]⟩ : ByteArray),.string (⟨#[]⟩ : ByteArray)] 34 (0,0)) (by solve_by_elim only[BK101.out,qw,qx,qv]) NB101_0.out (by simp));replace HO119:=U.mk (Kd.R_mono (Kd.R_keep (kx.apart (show kx w0 _ g s0_0 t121 t122 from by repeat(first|(with_reducible first|exact HI0.out|apply kx.alloc|apply kx.drewN|apply kx.drew|apply kx.set_1|apply kx.set_2|refine kx.far ?_ NB0_101.out _)|exact HI0.out)) (by solve_by_elim only[HO119.out,Kd.zv,Kd.zk,Kd.zw]) (by decide)) hk (fun _ h=>h.2)) (fun _ h=>h.1));replace HO125:=U.mk (Kd.R_mono (Kd.R_keep (kx.apart (show kx w0 _ g s0_0 t121 t122 from by repeat(first|(with_reducible first|exact HI0.out|apply kx.alloc|apply kx.drewN|apply kx.drew|apply kx.set_1|apply kx.set_2|refine kx.far ?_ NB0_101.out _)|exact HI0.out)) (by solve_by_elim only[HO125.out,Kd.zv,Kd.zk,Kd.zw]) (by decide)) hk (fun _ h=>h.2)) (fun _ h=>h.1));replace HK:=U.mk (zq.trans (by solve_by_elim (maxDepth:=20) only[HK.out,zq.set_,zx,jz,jq,jj,GW101.out]) hk (.inl rfl));replace HB:=U.mk (hb);replace HI0:=U.mk (hi);(try clear hb hk hi);have hnb44:=NB101_0.out;have hnc44:=NB0_101.out;have hcz45_0:w43.cell? ⟨gb101,0,none⟩ = some (.int .i64 0):=(qj BK101.out 0).trans rfl;have hcz45_1:w43.cell? ⟨gb101,1,none⟩ = some (.int .i64 0):=(qj BK101.out 1).trans rfl;have hcz45_2:w43.cell? ⟨gb101,2,none⟩ = some (.string (⟨#[]⟩ : ByteArray)):=(qj BK101.out 2).trans rfl;have hcz45_3:w43.cell? ⟨gb101,3,none⟩ = some (.string (⟨#[]⟩ : ByteArray)):=(qj BK101.out 3).trans rfl;have hfz45_0:=qz BK101.out 0;have hfz45_1:=qz BK101.out 1;have hfz45_2:=qz BK101.out 2;have hfz45_3:=qz BK101.out 3))
      refine bodyPost_ret (results_cell_row rfl _ _ gb101 34 #[.int .i64 4,.int .i64 0,.string t126,.string t120] (0,0) _ rfl (by(with_reducible repeat(first|refine qw ?_ _|refine qx ?_|refine qv ?_ _));refine blk_put (cs:=#[.int .i64 4,.int .i64 0,.string t126,.string (⟨#[]⟩ : ByteArray)]) ?_ 3 _ rfl;(with_reducible repeat(first|refine qw ?_ _|refine qx ?_|refine qv ?_ _));refine blk_put (cs:=#[.int .i64 4,.int .i64 0,.string (⟨#[]⟩ : ByteArray),.string (⟨#[]⟩ : ByteArray)]) ?_ 2 _ rfl;(with_reducible repeat(first|refine qw ?_ _|refine qx ?_|refine qv ?_ _));refine blk_put (cs:=#[.int .i64 4,.int .i64 0,.string (⟨#[]⟩ : ByteArray),.string (⟨#[]⟩ : ByteArray)]) ?_ 1 _ rfl;(with_reducible repeat(first|refine qw ?_ _|refine qx ?_|refine qv ?_ _));refine blk_put (cs:=#[.int .i64 0,.int .i64 0,.string (⟨#[]⟩ : ByteArray),.string (⟨#[]⟩ : ByteArray)]) ?_ 0 _ rfl;(with_reducible repeat(first|refine qw ?_ _|refine qx ?_|refine qv ?_ _));exact BK101.out) Try.underlying34 rfl (by kernel_rfl)) rfl ?_
      exact⟨by first|rfl|(simp[*,jv,jk] <;> rfl),by repeat(first|(with_reducible first|exact HI0.out|apply kx.alloc|apply kx.drewN|apply kx.drew|apply kx.set_1|apply kx.set_2|refine kx.far ?_ NB0_101.out _)|exact HI0.out),by repeat(first|(with_reducible first|exact HB.out|apply G|apply J|apply qq|refine qk ?_ (kx.ge HI0.out)|refine qk ?_ GE101.out)|exact HB.out),by repeat(first|(with_reducible first|exact HK.out|apply zq.set_|apply zx|apply jz|apply jq|refine jj ?_ GW101.out _)|exact HK.out)⟩
     ·rw[if_neg c31] at H
      have c31b0:(t102 == 4)=false:=beq_eq_false_iff_ne.mpr c31
      have c31b1:(t102 != 4)=true:=bne_iff_ne.mpr c31
      by_cases c46:t102=5
      ·rw[if_pos c46] at H
       have c46b0:(t102 == 5)=true:=beq_iff_eq.mpr c46
       have c46b1:(t102 != 5)=false:=bne_eq_false_iff_eq.mpr c46
       clear c46
       replace H:=jq8.mp H
       obtain⟨⟨t129,t130,t131⟩,A470,H⟩:=H
       try dsimp only at H
       have A47:=U.mk A470
       clear A470
       simp only[Option.some.injEq,Prod.mk.injEq] at H
       obtain⟨rfl,rfl,rfl,rfl,rfl,rfl⟩:=H
       go_enter Try.func69,Try.ntmps69
       go_wp2_with (first|((with_reducible refine gate_dst (N:=2) rfl ?_);refine box_event ?hg (N:=2) ?hd (cs:=#[.int .i64 0,.int .i64 0,.string (⟨#[]⟩ : ByteArray),.string (⟨#[]⟩ : ByteArray)]) (t:=34) ?hr ?_;(case hd=>rfl);(case hg=>rfl);(case hr=>first|(go_simp;done)|(go_simp;rfl));intro gb101 hg w48 hbox hb;replace HB:=U.mk (zz (by solve_by_elim (maxDepth:=20) only[HB.out,G,J,qq,qk,(kx.ge HI0.out)]) hb);have BK101:=U.mk (hbox);have GW101:=U.mk ((by rw[hg];exact(keep_size (w:=w) (g:=g) (row:=none) (by solve_by_elim (maxDepth:=20) only[HK.out,zq.set_,zx,jz,jq])):w.heap.size≤gb101));have GE101:=U.mk ((Nat.le_trans HW0.out (by rw[hg];exact(keep_size (w:=w) (g:=g) (row:=none) (by solve_by_elim (maxDepth:=20) only[HK.out,zq.set_,zx,jz,jq])):w.heap.size≤gb101):w0.heap.size≤gb101));replace HK:=U.mk (zq.trans (by solve_by_elim (maxDepth:=20) only[HK.out,zq.set_,zx,jz,jq]) (zq.of_below hb g none) (.inl rfl));have NB0_101:=U.mk ((by rw[hg];exact Nat.ne_of_lt (kx.lt (show kx w0 _ g s0_0 s0_1 s0_2 from by repeat(first|(with_reducible first|exact HI0.out|apply kx.alloc|apply kx.drewN|apply kx.drew|apply kx.set_1|apply kx.set_2)|exact HI0.out))):g≠gb101));have NB101_0:=U.mk ((by rw[hg];exact Nat.ne_of_gt (kx.lt (show kx w0 _ g s0_0 s0_1 s0_2 from by repeat(first|(with_reducible first|exact HI0.out|apply kx.alloc|apply kx.drewN|apply kx.drew|apply kx.set_1|apply kx.set_2)|exact HI0.out))):gb101≠g));replace HI0:=U.mk (kx.below (by solve_by_elim (maxDepth:=20) only[HI0.out,kx.alloc,kx.drewN,kx.drew,kx.set_1,kx.set_2]) hb);clear hb hbox hg)|((with_reducible refine jw (f:=54) rfl ?_);refine goesL_ (some 4) rfl rfl Try.func54 (by kernel_rfl) rfl #[.pointer (some ⟨g,0,none⟩),.int .i64 9] rfl (by(try simp only[jq0,jq1,jq2]);first|done|rfl|(simp only[jq3,jq4];rfl)) ?_;(with_reducible refine(qjx.calls g s0_0 s0_1 s0_2 9 t102 t103 t104 w0 _ ?side1 ?side2 A2.out).mono ?_);(case side1=>repeat(first|(with_reducible first|exact HI0.out|apply kx.alloc|apply kx.drewN|apply kx.drew|apply kx.set_1|apply kx.set_2|refine kx.far ?_ NB0_101.out _)|exact HI0.out));(case side2=>repeat(first|(with_reducible first|exact HB.out|apply G|apply J|apply qq|refine qk ?_ (kx.ge HI0.out)|refine qk ?_ GE101.out)|exact HB.out));rintro e w49 ⟨rfl,hi,hb,hk⟩;refine⟨_,rfl,?_⟩;replace BK101:=U.mk (zq.blk hk (g':=gb101) (o:=.cells #[.int .i64 0,.int .i64 0,.string (⟨#[]⟩ : ByteArray),.string (⟨#[]⟩ : ByteArray)] 34 (0,0)) (by solve_by_elim only[BK101.out,qw,qx,qv]) NB101_0.out (by simp));replace HK:=U.mk (zq.trans (by solve_by_elim (maxDepth:=20) only[HK.out,zq.set_,zx,jz,jq,jj,GW101.out]) hk (.inl rfl));replace HB:=U.mk (hb);replace HI0:=U.mk (hi);(try clear hb hk hi))|((with_reducible refine jw (f:=54) rfl ?_);refine goesL_ (some 38) rfl rfl Try.func54 (by kernel_rfl) rfl #[.pointer (some ⟨g,0,none⟩),.int .i64 40000] rfl (by(try simp only[jq0,jq1,jq2]);first|done|rfl|(simp only[jq3,jq4];rfl)) ?_;(with_reducible refine(qjx.calls g s0_0 t103 t104 40000 t129 t130 t131 w0 _ ?side1 ?side2 A47.out).mono ?_);(case side1=>repeat(first|(with_reducible first|exact HI0.out|apply kx.alloc|apply kx.drewN|apply kx.drew|apply kx.set_1|apply kx.set_2|refine kx.far ?_ NB0_101.out _)|exact HI0.out));(case side2=>repeat(first|(with_reducible first|exact HB.out|apply G|apply J|apply qq|refine qk ?_ (kx.ge HI0.out)|refine qk ?_ GE101.out)|exact HB.out));rintro e w50 ⟨rfl,hi,hb,hk⟩;refine⟨_,rfl,?_⟩;replace BK101:=U.mk (zq.blk hk (g':=gb101) (o:=.cells #[.int .i64 0,.int .i64 0,.string (⟨#[]⟩ : ByteArray),.string (⟨#[]⟩ : ByteArray)] 34 (0,0)) (by solve_by_elim only[BK101.out,qw,qx,qv]) NB101_0.out (by simp));replace HK:=U.mk (zq.trans (by solve_by_elim (maxDepth:=20) only[HK.out,zq.set_,zx,jz,jq,jj,GW101.out]) hk (.inl rfl));replace HB:=U.mk (hb);replace HI0:=U.mk (hi);(try clear hb hk hi);have hnb51:=NB101_0.out;have hnc51:=NB0_101.out;have hcz52_0:w50.cell? ⟨gb101,0,none⟩ = some (.int .i64 0):=(qj BK101.out 0).trans rfl;have hcz52_1:w50.cell? ⟨gb101,1,none⟩ = some (.int .i64 0):=(qj BK101.out 1).trans rfl;have hcz52_2:w50.cell? ⟨gb101,2,none⟩ = some (.string (⟨#[]⟩ : ByteArray)):=(qj BK101.out 2).trans rfl;have hcz52_3:w50.cell? ⟨gb101,3,none⟩ = some (.string (⟨#[]⟩ : ByteArray)):=(qj BK101.out 3).trans rfl;have hfz52_0:=qz BK101.out 0;have hfz52_1:=qz BK101.out 1;have hfz52_2:=qz BK101.out 2;have hfz52_3:=qz BK101.out 3))
       refine bodyPost_ret (results_cell_row rfl _ _ gb101 34 #[.int .i64 5,.int .i64 (wrap64 (t129 - 20000)),.string (⟨#[]⟩ : ByteArray),.string (⟨#[]⟩ : ByteArray)] (0,0) _ rfl (by(with_reducible repeat(first|refine qw ?_ _|refine qx ?_|refine qv ?_ _));refine blk_put (cs:=#[.int .i64 5,.int .i64 (wrap64 (t129 - 20000)),.string (⟨#[]⟩ : ByteArray),.string (⟨#[]⟩ : ByteArray)]) ?_ 3 _ rfl;(with_reducible repeat(first|refine qw ?_ _|refine qx ?_|refine qv ?_ _));refine blk_put (cs:=#[.int .i64 5,.int .i64 (wrap64 (t129 - 20000)),.string (⟨#[]⟩ : ByteArray),.string (⟨#[]⟩ : ByteArray)]) ?_ 2 _ rfl;(with_reducible repeat(first|refine qw ?_ _|refine qx ?_|refine qv ?_ _));refine blk_put (cs:=#[.int .i64 5,.int .i64 0,.string (⟨#[]⟩ : ByteArray),.string (⟨#[]⟩ : ByteArray)]) ?_ 1 _ rfl;(with_reducible repeat(first|refine qw ?_ _|refine qx ?_|refine qv ?_ _));refine blk_put (cs:=#[.int .i64 0,.int .i64 0,.string (⟨#[]⟩ : ByteArray),.string (⟨#[]⟩ : ByteArray)]) ?_ 0 _ rfl;(with_reducible repeat(first|refine qw ?_ _|refine qx ?_|refine qv ?_ _));exact BK101.out) Try.underlying34 rfl (by kernel_rfl)) rfl ?_
       exact⟨by first|rfl|(simp[*,jv,jk] <;> rfl),by repeat(first|(with_reducible first|exact HI0.out|apply kx.alloc|apply kx.drewN|apply kx.drew|apply kx.set_1|apply kx.set_2|refine kx.far ?_ NB0_101.out _)|exact HI0.out),by repeat(first|(with_reducible first|exact HB.out|apply G|apply J|apply qq|refine qk ?_ (kx.ge HI0.out)|refine qk ?_ GE101.out)|exact HB.out),by repeat(first|(with_reducible first|exact HK.out|apply zq.set_|apply zx|apply jz|apply jq|refine jj ?_ GW101.out _)|exact HK.out)⟩
      ·rw[if_neg c46] at H
       have c46b0:(t102 == 5)=false:=beq_eq_false_iff_ne.mpr c46
       have c46b1:(t102 != 5)=true:=bne_iff_ne.mpr c46
       by_cases c53:t102=6
       ·rw[if_pos c53] at H
        have c53b0:(t102 == 6)=true:=beq_iff_eq.mpr c53
        have c53b1:(t102 != 6)=false:=bne_eq_false_iff_eq.mpr c53
        clear c53
        replace H:=jq8.mp H
        obtain⟨⟨t132,t133,t134,t135,t136,t137⟩,A540,H⟩:=H
        try dsimp only at H
        have A54:=U.mk A540
        clear A540
        simp only[Option.some.injEq,Prod.mk.injEq] at H
        obtain⟨rfl,rfl,rfl,rfl,rfl,rfl⟩:=H
        go_enter Try.func69,Try.ntmps69
        go_wp2_with (first|((with_reducible refine gate_dst (N:=2) rfl ?_);refine box_event ?hg (N:=2) ?hd (cs:=#[.int .i64 0,.int .i64 0,.string (⟨#[]⟩ : ByteArray),.string (⟨#[]⟩ : ByteArray)]) (t:=34) ?hr ?_;(case hd=>rfl);(case hg=>rfl);(case hr=>first|(go_simp;done)|(go_simp;rfl));intro gb101 hg w55 hbox hb;replace HB:=U.mk (zz (by solve_by_elim (maxDepth:=20) only[HB.out,G,J,qq,qk,(kx.ge HI0.out)]) hb);have BK101:=U.mk (hbox);have GW101:=U.mk ((by rw[hg];exact(keep_size (w:=w) (g:=g) (row:=none) (by solve_by_elim (maxDepth:=20) only[HK.out,zq.set_,zx,jz,jq])):w.heap.size≤gb101));have GE101:=U.mk ((Nat.le_trans HW0.out (by rw[hg];exact(keep_size (w:=w) (g:=g) (row:=none) (by solve_by_elim (maxDepth:=20) only[HK.out,zq.set_,zx,jz,jq])):w.heap.size≤gb101):w0.heap.size≤gb101));replace HK:=U.mk (zq.trans (by solve_by_elim (maxDepth:=20) only[HK.out,zq.set_,zx,jz,jq]) (zq.of_below hb g none) (.inl rfl));have NB0_101:=U.mk ((by rw[hg];exact Nat.ne_of_lt (kx.lt (show kx w0 _ g s0_0 s0_1 s0_2 from by repeat(first|(with_reducible first|exact HI0.out|apply kx.alloc|apply kx.drewN|apply kx.drew|apply kx.set_1|apply kx.set_2)|exact HI0.out))):g≠gb101));have NB101_0:=U.mk ((by rw[hg];exact Nat.ne_of_gt (kx.lt (show kx w0 _ g s0_0 s0_1 s0_2 from by repeat(first|(with_reducible first|exact HI0.out|apply kx.alloc|apply kx.drewN|apply kx.drew|apply kx.set_1|apply kx.set_2)|exact HI0.out))):gb101≠g));replace HI0:=U.mk (kx.below (by solve_by_elim (maxDepth:=20) only[HI0.out,kx.alloc,kx.drewN,kx.drew,kx.set_1,kx.set_2]) hb);clear hb hbox hg)|((with_reducible refine jw (f:=54) rfl ?_);refine goesL_ (some 4) rfl rfl Try.func54 (by kernel_rfl) rfl #[.pointer (some ⟨g,0,none⟩),.int .i64 9] rfl (by(try simp only[jq0,jq1,jq2]);first|done|rfl|(simp only[jq3,jq4];rfl)) ?_;(with_reducible refine(qjx.calls g s0_0 s0_1 s0_2 9 t102 t103 t104 w0 _ ?side1 ?side2 A2.out).mono ?_);(case side1=>repeat(first|(with_reducible first|exact HI0.out|apply kx.alloc|apply kx.drewN|apply kx.drew|apply kx.set_1|apply kx.set_2|refine kx.far ?_ NB0_101.out _)|exact HI0.out));(case side2=>repeat(first|(with_reducible first|exact HB.out|apply G|apply J|apply qq|refine qk ?_ (kx.ge HI0.out)|refine qk ?_ GE101.out)|exact HB.out));rintro e w56 ⟨rfl,hi,hb,hk⟩;refine⟨_,rfl,?_⟩;replace BK101:=U.mk (zq.blk hk (g':=gb101) (o:=.cells #[.int .i64 0,.int .i64 0,.string (⟨#[]⟩ : ByteArray),.string (⟨#[]⟩ : ByteArray)] 34 (0,0)) (by solve_by_elim only[BK101.out,qw,qx,qv]) NB101_0.out (by simp));replace HK:=U.mk (zq.trans (by solve_by_elim (maxDepth:=20) only[HK.out,zq.set_,zx,jz,jq,jj,GW101.out]) hk (.inl rfl));replace HB:=U.mk (hb);replace HI0:=U.mk (hi);(try clear hb hk hi))|((with_reducible refine jw (f:=67) rfl ?_);refine goesL_ (some 44) rfl rfl Try.func67 (by kernel_rfl) rfl #[.pointer (some ⟨g,0,none⟩)] rfl (by(try simp only[jq0,jq1,jq2]);first|done|rfl|(simp only[jq3,jq4];rfl)) ?_;(with_reducible refine(qjz.calls k g s0_0 t103 t104 t132 t133 t134 t135 t136 t137 w0 _ ?side1 ?side2 A54.out).mono ?_);(case side1=>repeat(first|(with_reducible first|exact HI0.out|apply kx.alloc|apply kx.drewN|apply kx.drew|apply kx.set_1|apply kx.set_2|refine kx.far ?_ NB0_101.out _)|exact HI0.out));(case side2=>repeat(first|(with_reducible first|exact HB.out|apply G|apply J|apply qq|refine qk ?_ (kx.ge HI0.out)|refine qk ?_ GE101.out)|exact HB.out));rintro e w57 ⟨rfl,hi,hb,hk⟩;refine⟨_,rfl,?_⟩;replace BK101:=U.mk (zq.blk hk (g':=gb101) (o:=.cells #[.int .i64 0,.int .i64 0,.string (⟨#[]⟩ : ByteArray),.string (⟨#[]⟩ : ByteArray)] 34 (0,0)) (by solve_by_elim only[BK101.out,qw,qx,qv]) NB101_0.out (by simp));replace HK:=U.mk (zq.trans (by solve_by_elim (maxDepth:=20) only[HK.out,zq.set_,zx,jz,jq,jj,GW101.out]) hk (.inl rfl));replace HB:=U.mk (hb);replace HI0:=U.mk (hi);(try clear hb hk hi);have hnb58:=NB101_0.out;have hnc58:=NB0_101.out;have hcz59_0:w57.cell? ⟨gb101,0,none⟩ = some (.int .i64 0):=(qj BK101.out 0).trans rfl;have hcz59_1:w57.cell? ⟨gb101,1,none⟩ = some (.int .i64 0):=(qj BK101.out 1).trans rfl;have hcz59_2:w57.cell? ⟨gb101,2,none⟩ = some (.string (⟨#[]⟩ : ByteArray)):=(qj BK101.out 2).trans rfl;have hcz59_3:w57.cell? ⟨gb101,3,none⟩ = some (.string (⟨#[]⟩ : ByteArray)):=(qj BK101.out 3).trans rfl;have hfz59_0:=qz BK101.out 0;have hfz59_1:=qz BK101.out 1;have hfz59_2:=qz BK101.out 2;have hfz59_3:=qz BK101.out 3))
        refine bodyPost_ret (results_cell_row rfl _ _ gb101 34 #[.int .i64 t132,.int .i64 t133,.string t134,.string t135] (0,0) _ rfl (by(with_reducible repeat(first|refine qw ?_ _|refine qx ?_|refine qv ?_ _));refine blk_put (cs:=#[.int .i64 t132,.int .i64 t133,.string t134,.string (⟨#[]⟩ : ByteArray)]) ?_ 3 _ rfl;(with_reducible repeat(first|refine qw ?_ _|refine qx ?_|refine qv ?_ _));refine blk_put (cs:=#[.int .i64 t132,.int .i64 t133,.string (⟨#[]⟩ : ByteArray),.string (⟨#[]⟩ : ByteArray)]) ?_ 2 _ rfl;(with_reducible repeat(first|refine qw ?_ _|refine qx ?_|refine qv ?_ _));refine blk_put (cs:=#[.int .i64 t132,.int .i64 0,.string (⟨#[]⟩ : ByteArray),.string (⟨#[]⟩ : ByteArray)]) ?_ 1 _ rfl;(with_reducible repeat(first|refine qw ?_ _|refine qx ?_|refine qv ?_ _));refine blk_put (cs:=#[.int .i64 0,.int .i64 0,.string (⟨#[]⟩ : ByteArray),.string (⟨#[]⟩ : ByteArray)]) ?_ 0 _ rfl;(with_reducible repeat(first|refine qw ?_ _|refine qx ?_|refine qv ?_ _));exact BK101.out) Try.underlying34 rfl (by kernel_rfl)) rfl ?_
        exact⟨by first|rfl|(simp[*,jv,jk] <;> rfl),by repeat(first|(with_reducible first|exact HI0.out|apply kx.alloc|apply kx.drewN|apply kx.drew|apply kx.set_1|apply kx.set_2|refine kx.far ?_ NB0_101.out _)|exact HI0.out),by repeat(first|(with_reducible first|exact HB.out|apply G|apply J|apply qq|refine qk ?_ (kx.ge HI0.out)|refine qk ?_ GE101.out)|exact HB.out),by repeat(first|(with_reducible first|exact HK.out|apply zq.set_|apply zx|apply jz|apply jq|refine jj ?_ GW101.out _)|exact HK.out)⟩
       ·rw[if_neg c53] at H
        have c53b0:(t102 == 6)=false:=beq_eq_false_iff_ne.mpr c53
        have c53b1:(t102 != 6)=true:=bne_iff_ne.mpr c53
        by_cases c60:t102=7
        ·rw[if_pos c60] at H
         have c60b0:(t102 == 7)=true:=beq_iff_eq.mpr c60
         have c60b1:(t102 != 7)=false:=bne_eq_false_iff_eq.mpr c60
         clear c60
         replace H:=jq8.mp H
         obtain⟨⟨t138,t139,t140⟩,A610,H⟩:=H
         try dsimp only at H
         have A61:=U.mk A610
         clear A610
         simp only[Option.some.injEq,Prod.mk.injEq] at H
         obtain⟨rfl,rfl,rfl,rfl,rfl,rfl⟩:=H
         go_enter Try.func69,Try.ntmps69
         go_wp2_with (first|((with_reducible refine gate_dst (N:=2) rfl ?_);refine box_event ?hg (N:=2) ?hd (cs:=#[.int .i64 0,.int .i64 0,.string (⟨#[]⟩ : ByteArray),.string (⟨#[]⟩ : ByteArray)]) (t:=34) ?hr ?_;(case hd=>rfl);(case hg=>rfl);(case hr=>first|(go_simp;done)|(go_simp;rfl));intro gb101 hg w62 hbox hb;replace HB:=U.mk (zz (by solve_by_elim (maxDepth:=20) only[HB.out,G,J,qq,qk,(kx.ge HI0.out)]) hb);have BK101:=U.mk (hbox);have GW101:=U.mk ((by rw[hg];exact(keep_size (w:=w) (g:=g) (row:=none) (by solve_by_elim (maxDepth:=20) only[HK.out,zq.set_,zx,jz,jq])):w.heap.size≤gb101));have GE101:=U.mk ((Nat.le_trans HW0.out (by rw[hg];exact(keep_size (w:=w) (g:=g) (row:=none) (by solve_by_elim (maxDepth:=20) only[HK.out,zq.set_,zx,jz,jq])):w.heap.size≤gb101):w0.heap.size≤gb101));replace HK:=U.mk (zq.trans (by solve_by_elim (maxDepth:=20) only[HK.out,zq.set_,zx,jz,jq]) (zq.of_below hb g none) (.inl rfl));have NB0_101:=U.mk ((by rw[hg];exact Nat.ne_of_lt (kx.lt (show kx w0 _ g s0_0 s0_1 s0_2 from by repeat(first|(with_reducible first|exact HI0.out|apply kx.alloc|apply kx.drewN|apply kx.drew|apply kx.set_1|apply kx.set_2)|exact HI0.out))):g≠gb101));have NB101_0:=U.mk ((by rw[hg];exact Nat.ne_of_gt (kx.lt (show kx w0 _ g s0_0 s0_1 s0_2 from by repeat(first|(with_reducible first|exact HI0.out|apply kx.alloc|apply kx.drewN|apply kx.drew|apply kx.set_1|apply kx.set_2)|exact HI0.out))):gb101≠g));replace HI0:=U.mk (kx.below (by solve_by_elim (maxDepth:=20) only[HI0.out,kx.alloc,kx.drewN,kx.drew,kx.set_1,kx.set_2]) hb);clear hb hbox hg)|((with_reducible refine jw (f:=54) rfl ?_);refine goesL_ (some 4) rfl rfl Try.func54 (by kernel_rfl) rfl #[.pointer (some ⟨g,0,none⟩),.int .i64 9] rfl (by(try simp only[jq0,jq1,jq2]);first|done|rfl|(simp only[jq3,jq4];rfl)) ?_;(with_reducible refine(qjx.calls g s0_0 s0_1 s0_2 9 t102 t103 t104 w0 _ ?side1 ?side2 A2.out).mono ?_);(case side1=>repeat(first|(with_reducible first|exact HI0.out|apply kx.alloc|apply kx.drewN|apply kx.drew|apply kx.set_1|apply kx.set_2|refine kx.far ?_ NB0_101.out _)|exact HI0.out));(case side2=>repeat(first|(with_reducible first|exact HB.out|apply G|apply J|apply qq|refine qk ?_ (kx.ge HI0.out)|refine qk ?_ GE101.out)|exact HB.out));rintro e w63 ⟨rfl,hi,hb,hk⟩;refine⟨_,rfl,?_⟩;replace BK101:=U.mk (zq.blk hk (g':=gb101) (o:=.cells #[.int .i64 0,.int .i64 0,.string (⟨#[]⟩ : ByteArray),.string (⟨#[]⟩ : ByteArray)] 34 (0,0)) (by solve_by_elim only[BK101.out,qw,qx,qv]) NB101_0.out (by simp));replace HK:=U.mk (zq.trans (by solve_by_elim (maxDepth:=20) only[HK.out,zq.set_,zx,jz,jq,jj,GW101.out]) hk (.inl rfl));replace HB:=U.mk (hb);replace HI0:=U.mk (hi);(try clear hb hk hi))|((with_reducible refine jw (f:=54) rfl ?_);refine goesL_ (some 48) rfl rfl Try.func54 (by kernel_rfl) rfl #[.pointer (some ⟨g,0,none⟩),.int .i64 1000] rfl (by(try simp only[jq0,jq1,jq2]);first|done|rfl|(simp only[jq3,jq4];rfl)) ?_;(with_reducible refine(qjx.calls g s0_0 t103 t104 1000 t138 t139 t140 w0 _ ?side1 ?side2 A61.out).mono ?_);(case side1=>repeat(first|(with_reducible first|exact HI0.out|apply kx.alloc|apply kx.drewN|apply kx.drew|apply kx.set_1|apply kx.set_2|refine kx.far ?_ NB0_101.out _)|exact HI0.out));(case side2=>repeat(first|(with_reducible first|exact HB.out|apply G|apply J|apply qq|refine qk ?_ (kx.ge HI0.out)|refine qk ?_ GE101.out)|exact HB.out));rintro e w64 ⟨rfl,hi,hb,hk⟩;refine⟨_,rfl,?_⟩;replace BK101:=U.mk (zq.blk hk (g':=gb101) (o:=.cells #[.int .i64 0,.int .i64 0,.string (⟨#[]⟩ : ByteArray),.string (⟨#[]⟩ : ByteArray)] 34 (0,0)) (by solve_by_elim only[BK101.out,qw,qx,qv]) NB101_0.out (by simp));replace HK:=U.mk (zq.trans (by solve_by_elim (maxDepth:=20) only[HK.out,zq.set_,zx,jz,jq,jj,GW101.out]) hk (.inl rfl));replace HB:=U.mk (hb);replace HI0:=U.mk (hi);(try clear hb hk hi);have hnb65:=NB101_0.out;have hnc65:=NB0_101.out;have hcz66_0:w64.cell? ⟨gb101,0,none⟩ = some (.int .i64 0):=(qj BK101.out 0).trans rfl;have hcz66_1:w64.cell? ⟨gb101,1,none⟩ = some (.int .i64 0):=(qj BK101.out 1).trans rfl;have hcz66_2:w64.cell? ⟨gb101,2,none⟩ = some (.string (⟨#[]⟩ : ByteArray)):=(qj BK101.out 2).trans rfl;have hcz66_3:w64.cell? ⟨gb101,3,none⟩ = some (.string (⟨#[]⟩ : ByteArray)):=(qj BK101.out 3).trans rfl;have hfz66_0:=qz BK101.out 0;have hfz66_1:=qz BK101.out 1;have hfz66_2:=qz BK101.out 2;have hfz66_3:=qz BK101.out 3))
         refine bodyPost_ret (results_cell_row rfl _ _ gb101 34 #[.int .i64 7,.int .i64 (wrap64 (t138 - 10)),.string (⟨#[]⟩ : ByteArray),.string (⟨#[]⟩ : ByteArray)] (0,0) _ rfl (by(with_reducible repeat(first|refine qw ?_ _|refine qx ?_|refine qv ?_ _));refine blk_put (cs:=#[.int .i64 7,.int .i64 (wrap64 (t138 - 10)),.string (⟨#[]⟩ : ByteArray),.string (⟨#[]⟩ : ByteArray)]) ?_ 3 _ rfl;(with_reducible repeat(first|refine qw ?_ _|refine qx ?_|refine qv ?_ _));refine blk_put (cs:=#[.int .i64 7,.int .i64 (wrap64 (t138 - 10)),.string (⟨#[]⟩ : ByteArray),.string (⟨#[]⟩ : ByteArray)]) ?_ 2 _ rfl;(with_reducible repeat(first|refine qw ?_ _|refine qx ?_|refine qv ?_ _));refine blk_put (cs:=#[.int .i64 7,.int .i64 0,.string (⟨#[]⟩ : ByteArray),.string (⟨#[]⟩ : ByteArray)]) ?_ 1 _ rfl;(with_reducible repeat(first|refine qw ?_ _|refine qx ?_|refine qv ?_ _));refine blk_put (cs:=#[.int .i64 0,.int .i64 0,.string (⟨#[]⟩ : ByteArray),.string (⟨#[]⟩ : ByteArray)]) ?_ 0 _ rfl;(with_reducible repeat(first|refine qw ?_ _|refine qx ?_|refine qv ?_ _));exact BK101.out) Try.underlying34 rfl (by kernel_rfl)) rfl ?_
         exact⟨by first|rfl|(simp[*,jv,jk] <;> rfl),by repeat(first|(with_reducible first|exact HI0.out|apply kx.alloc|apply kx.drewN|apply kx.drew|apply kx.set_1|apply kx.set_2|refine kx.far ?_ NB0_101.out _)|exact HI0.out),by repeat(first|(with_reducible first|exact HB.out|apply G|apply J|apply qq|refine qk ?_ (kx.ge HI0.out)|refine qk ?_ GE101.out)|exact HB.out),by repeat(first|(with_reducible first|exact HK.out|apply zq.set_|apply zx|apply jz|apply jq|refine jj ?_ GW101.out _)|exact HK.out)⟩
        ·rw[if_neg c60] at H
         have c60b0:(t102 == 7)=false:=beq_eq_false_iff_ne.mpr c60
         have c60b1:(t102 != 7)=true:=bne_iff_ne.mpr c60
         replace H:=jq8.mp H
         obtain⟨⟨t141,t142,t143⟩,A670,H⟩:=H
         try dsimp only at H
         have A67:=U.mk A670
         clear A670
         simp only[Option.some.injEq,Prod.mk.injEq] at H
         obtain⟨rfl,rfl,rfl,rfl,rfl,rfl⟩:=H
         go_enter Try.func69,Try.ntmps69
         go_wp2_with (first|((with_reducible refine gate_dst (N:=2) rfl ?_);refine box_event ?hg (N:=2) ?hd (cs:=#[.int .i64 0,.int .i64 0,.string (⟨#[]⟩ : ByteArray),.string (⟨#[]⟩ : ByteArray)]) (t:=34) ?hr ?_;(case hd=>rfl);(case hg=>rfl);(case hr=>first|(go_simp;done)|(go_simp;rfl));intro gb101 hg w68 hbox hb;replace HB:=U.mk (zz (by solve_by_elim (maxDepth:=20) only[HB.out,G,J,qq,qk,(kx.ge HI0.out)]) hb);have BK101:=U.mk (hbox);have GW101:=U.mk ((by rw[hg];exact(keep_size (w:=w) (g:=g) (row:=none) (by solve_by_elim (maxDepth:=20) only[HK.out,zq.set_,zx,jz,jq])):w.heap.size≤gb101));have GE101:=U.mk ((Nat.le_trans HW0.out (by rw[hg];exact(keep_size (w:=w) (g:=g) (row:=none) (by solve_by_elim (maxDepth:=20) only[HK.out,zq.set_,zx,jz,jq])):w.heap.size≤gb101):w0.heap.size≤gb101));replace HK:=U.mk (zq.trans (by solve_by_elim (maxDepth:=20) only[HK.out,zq.set_,zx,jz,jq]) (zq.of_below hb g none) (.inl rfl));have NB0_101:=U.mk ((by rw[hg];exact Nat.ne_of_lt (kx.lt (show kx w0 _ g s0_0 s0_1 s0_2 from by repeat(first|(with_reducible first|exact HI0.out|apply kx.alloc|apply kx.drewN|apply kx.drew|apply kx.set_1|apply kx.set_2)|exact HI0.out))):g≠gb101));have NB101_0:=U.mk ((by rw[hg];exact Nat.ne_of_gt (kx.lt (show kx w0 _ g s0_0 s0_1 s0_2 from by repeat(first|(with_reducible first|exact HI0.out|apply kx.alloc|apply kx.drewN|apply kx.drew|apply kx.set_1|apply kx.set_2)|exact HI0.out))):gb101≠g));replace HI0:=U.mk (kx.below (by solve_by_elim (maxDepth:=20) only[HI0.out,kx.alloc,kx.drewN,kx.drew,kx.set_1,kx.set_2]) hb);clear hb hbox hg)|((with_reducible refine jw (f:=54) rfl ?_);refine goesL_ (some 4) rfl rfl Try.func54 (by kernel_rfl) rfl #[.pointer (some ⟨g,0,none⟩),.int .i64 9] rfl (by(try simp only[jq0,jq1,jq2]);first|done|rfl|(simp only[jq3,jq4];rfl)) ?_;(with_reducible refine(qjx.calls g s0_0 s0_1 s0_2 9 t102 t103 t104 w0 _ ?side1 ?side2 A2.out).mono ?_);(case side1=>repeat(first|(with_reducible first|exact HI0.out|apply kx.alloc|apply kx.drewN|apply kx.drew|apply kx.set_1|apply kx.set_2|refine kx.far ?_ NB0_101.out _)|exact HI0.out));(case side2=>repeat(first|(with_reducible first|exact HB.out|apply G|apply J|apply qq|refine qk ?_ (kx.ge HI0.out)|refine qk ?_ GE101.out)|exact HB.out));rintro e w69 ⟨rfl,hi,hb,hk⟩;refine⟨_,rfl,?_⟩;replace BK101:=U.mk (zq.blk hk (g':=gb101) (o:=.cells #[.int .i64 0,.int .i64 0,.string (⟨#[]⟩ : ByteArray),.string (⟨#[]⟩ : ByteArray)] 34 (0,0)) (by solve_by_elim only[BK101.out,qw,qx,qv]) NB101_0.out (by simp));replace HK:=U.mk (zq.trans (by solve_by_elim (maxDepth:=20) only[HK.out,zq.set_,zx,jz,jq,jj,GW101.out]) hk (.inl rfl));replace HB:=U.mk (hb);replace HI0:=U.mk (hi);(try clear hb hk hi))|((with_reducible refine jw (f:=126) rfl ?_);refine goesL_ (some 52) rfl rfl Try.func126 (by kernel_rfl) rfl #[.pointer (some ⟨g,0,none⟩)] rfl (by(try simp only[jq0,jq1,jq2]);first|done|rfl|(simp only[jq3,jq4];rfl)) ?_;(with_reducible refine(qkz.calls k g s0_0 t103 t104 t141 t142 t143 w0 _ ?side1 ?side2 A67.out).mono ?_);(case side1=>repeat(first|(with_reducible first|exact HI0.out|apply kx.alloc|apply kx.drewN|apply kx.drew|apply kx.set_1|apply kx.set_2|refine kx.far ?_ NB0_101.out _)|exact HI0.out));(case side2=>repeat(first|(with_reducible first|exact HB.out|apply G|apply J|apply qq|refine qk ?_ (kx.ge HI0.out)|refine qk ?_ GE101.out)|exact HB.out));rintro e w70 ⟨rfl,hi,hb,hk⟩;refine⟨_,rfl,?_⟩;replace BK101:=U.mk (zq.blk hk (g':=gb101) (o:=.cells #[.int .i64 0,.int .i64 0,.string (⟨#[]⟩ : ByteArray),.string (⟨#[]⟩ : ByteArray)] 34 (0,0)) (by solve_by_elim only[BK101.out,qw,qx,qv]) NB101_0.out (by simp));replace HK:=U.mk (zq.trans (by solve_by_elim (maxDepth:=20) only[HK.out,zq.set_,zx,jz,jq,jj,GW101.out]) hk (.inl rfl));replace HB:=U.mk (hb);replace HI0:=U.mk (hi);(try clear hb hk hi);have hnb71:=NB101_0.out;have hnc71:=NB0_101.out;have hcz72_0:w70.cell? ⟨gb101,0,none⟩ = some (.int .i64 0):=(qj BK101.out 0).trans rfl;have hcz72_1:w70.cell? ⟨gb101,1,none⟩ = some (.int .i64 0):=(qj BK101.out 1).trans rfl;have hcz72_2:w70.cell? ⟨gb101,2,none⟩ = some (.string (⟨#[]⟩ : ByteArray)):=(qj BK101.out 2).trans rfl;have hcz72_3:w70.cell? ⟨gb101,3,none⟩ = some (.string (⟨#[]⟩ : ByteArray)):=(qj BK101.out 3).trans rfl;have hfz72_0:=qz BK101.out 0;have hfz72_1:=qz BK101.out 1;have hfz72_2:=qz BK101.out 2;have hfz72_3:=qz BK101.out 3))
         refine bodyPost_ret (results_cell_row rfl _ _ gb101 34 #[.int .i64 5,.int .i64 t141,.string (⟨#[]⟩ : ByteArray),.string (⟨#[]⟩ : ByteArray)] (0,0) _ rfl (by(with_reducible repeat(first|refine qw ?_ _|refine qx ?_|refine qv ?_ _));refine blk_put (cs:=#[.int .i64 5,.int .i64 t141,.string (⟨#[]⟩ : ByteArray),.string (⟨#[]⟩ : ByteArray)]) ?_ 3 _ rfl;(with_reducible repeat(first|refine qw ?_ _|refine qx ?_|refine qv ?_ _));refine blk_put (cs:=#[.int .i64 5,.int .i64 t141,.string (⟨#[]⟩ : ByteArray),.string (⟨#[]⟩ : ByteArray)]) ?_ 2 _ rfl;(with_reducible repeat(first|refine qw ?_ _|refine qx ?_|refine qv ?_ _));refine blk_put (cs:=#[.int .i64 5,.int .i64 0,.string (⟨#[]⟩ : ByteArray),.string (⟨#[]⟩ : ByteArray)]) ?_ 1 _ rfl;(with_reducible repeat(first|refine qw ?_ _|refine qx ?_|refine qv ?_ _));refine blk_put (cs:=#[.int .i64 0,.int .i64 0,.string (⟨#[]⟩ : ByteArray),.string (⟨#[]⟩ : ByteArray)]) ?_ 0 _ rfl;(with_reducible repeat(first|refine qw ?_ _|refine qx ?_|refine qv ?_ _));exact BK101.out) Try.underlying34 rfl (by kernel_rfl)) rfl ?_
         exact⟨by first|rfl|(simp[*,jv,jk] <;> rfl),by repeat(first|(with_reducible first|exact HI0.out|apply kx.alloc|apply kx.drewN|apply kx.drew|apply kx.set_1|apply kx.set_2|refine kx.far ?_ NB0_101.out _)|exact HI0.out),by repeat(first|(with_reducible first|exact HB.out|apply G|apply J|apply qq|refine qk ?_ (kx.ge HI0.out)|refine qk ?_ GE101.out)|exact HB.out),by repeat(first|(with_reducible first|exact HK.out|apply zq.set_|apply zx|apply jz|apply jq|refine jj ?_ GW101.out _)|exact HK.out)⟩
def qjk.l0:Nat→List Int→Int→Int→List Int→Int→Int→Int→Int→ByteArray→ByteArray→Option (Int × Int × ByteArray × ByteArray × Int × Int)
 | 0,_,_,_,_,_,_,_,_,_,_=>none
 | k + 1,x5,x44,x45,x1000,x1001,x1002,x102000,x102001,x102002,x102003=>if x45 < x44 then(if 0≤x45 then(if x45 < (x5.length:Int) then(qjk.l0 k (x5.set (x45:Int).toNat 113) x44 (wrap64 (x45 + 1)) x1000 x1001 x1002 x102000 x102001 x102002 x102003) else(none)) else(none)) else(some (x102000,x102001,strOfNums x5,x102003,x1001,x1002))
def qjk.f (k:Nat) (s0_0:List Int) (s0_1:Int) (s0_2:Int) (a1_0:Int) (a1_1:Int) (a1_2:ByteArray) (a1_3:ByteArray):Option (Int × Int × ByteArray × ByteArray × Int × Int):=(qjx.f s0_0 s0_1 s0_2 16).bind fun bt103=>(if bt103.1=0 then((qjx.f s0_0 bt103.2.1 bt103.2.2 9).bind fun bt106=>(some (bt106.1,a1_1,a1_2,a1_3,bt106.2.1,bt106.2.2))) else(if bt103.1=1 then((qkv.f k 32).bind fun t109=>((some (([(-1),2,33,wrap64 ((wrap64 (64 * t109)) + 1),100000000001,(-100000000000),65]:List Int):List Int)).bind fun y110=>((qjx.f s0_0 bt103.2.1 bt103.2.2 7).bind fun bt113=>(if 0≤bt113.1 then(if bt113.1 < (y110.length:Int) then(some (a1_0,rd y110 bt113.1,a1_2,a1_3,bt113.2.1,bt113.2.2)) else(none)) else(none))))) else(if bt103.1=2 then((qjv.f s0_0 bt103.2.1 bt103.2.2 (([(⟨#[]⟩ : ByteArray),(⟨#[120]⟩ : ByteArray),(⟨#[97,9,98]⟩ : ByteArray)]:List ByteArray))).bind fun bt120=>(some (a1_0,a1_1,bt120.1,a1_3,bt120.2.1,bt120.2.2))) else(if bt103.1=3 then((qjv.f s0_0 bt103.2.1 bt103.2.2 (([(⟨#[]⟩ : ByteArray),(⟨#[84]⟩ : ByteArray),(⟨#[49,97]⟩ : ByteArray)]:List ByteArray))).bind fun bt126=>(some (a1_0,a1_1,a1_2,bt126.1,bt126.2.1,bt126.2.2))) else(if bt103.1=4 then((qjx.f s0_0 bt103.2.1 bt103.2.2 3).bind fun bt129=>(if 0≤(wrap64 (199 + bt129.1)) then(if (wrap64 (199 + bt129.1):Int).toNat≤281474976710656 then((some (List.replicate (wrap64 (199 + bt129.1):Int).toNat 0:List Int)).bind fun y132=>(qjk.l0 k y132 (y132.length:Int) 0 s0_0 bt129.2.1 bt129.2.2 a1_0 a1_1 a1_2 a1_3)) else(none)) else(none))) else(some (a1_0,a1_1,a1_2,a1_3,bt103.2.1,bt103.2.2)))))))
theorem qjk.calls (k:Nat) (g:Nat) (s0_0:List Int) (s0_1:Int) (s0_2:Int) (a1_0:Int) (a1_1:Int) (a1_2:ByteArray) (a1_3:ByteArray) (r1:Int) (r2:Int) (r3:ByteArray) (r4:ByteArray) (r5:Int) (r6:Int) (w0 w:World) (hI:kx w0 w g s0_0 s0_1 s0_2) (hB:Below w0.heap.size w0 w) (h:qjk.f k s0_0 s0_1 s0_2 a1_0 a1_1 a1_2 a1_3=some (r1,r2,r3,r4,r5,r6)) :
  Calls Try.prog 87 #[.pointer (some ⟨g,0,none⟩),.agg #[.int .i64 a1_0,.int .i64 a1_1,.string a1_2,.string a1_3]] w fun e w'=>e=.returned (.agg #[.int .i64 r1,.int .i64 r2,.string r3,.string r4])∧kx w0 w' g s0_0 r5 r6∧Below w0.heap.size w0 w'∧zq w w' g none:=by
 have hu34:=Try.underlying34
 have HI0:=U.mk hI
 have HK:=U.mk (zq.refl w g none)
 have HL:=U.mk hB.size
 clear hI
 have HW0:=U.mk hB.size
 have HB:=U.mk hB
 clear hB
 unfold qjk.f at h
 have H:=h
 clear h
 replace H:=jq8.mp H
 obtain⟨⟨t103,t104,t105⟩,A30,H⟩:=H
 try dsimp only at H
 have A3:=U.mk A30
 clear A30
 by_cases c4:t103=0
 ·rw[if_pos c4] at H
  have c4b0:(t103 == 0)=true:=beq_iff_eq.mpr c4
  have c4b1:(t103 != 0)=false:=bne_eq_false_iff_eq.mpr c4
  clear c4
  replace H:=jq8.mp H
  obtain⟨⟨t106,t107,t108⟩,A50,H⟩:=H
  try dsimp only at H
  have A5:=U.mk A50
  clear A50
  simp only[Option.some.injEq,Prod.mk.injEq] at H
  obtain⟨rfl,rfl,rfl,rfl,rfl,rfl⟩:=H
  go_enter Try.func87,Try.ntmps87
  go_wp2_with (first|((with_reducible refine gate_dst (N:=3) rfl ?_);refine box_event ?hg (N:=3) ?hd (cs:=#[.int .i64 a1_0,.int .i64 a1_1,.string a1_2,.string a1_3]) (t:=34) ?hr ?_;(case hd=>rfl);(case hg=>rfl);(case hr=>first|(go_simp;done)|(go_simp;rfl));intro gb101 hg w6 hbox hb;replace HB:=U.mk (zz (by solve_by_elim (maxDepth:=20) only[HB.out,G,J,qq,qk,(kx.ge HI0.out)]) hb);have BK101:=U.mk (hbox);have GW101:=U.mk ((by rw[hg];exact(keep_size (w:=w) (g:=g) (row:=none) (by solve_by_elim (maxDepth:=20) only[HK.out,zq.set_,zx,jz,jq])):w.heap.size≤gb101));have GE101:=U.mk ((Nat.le_trans HW0.out (by rw[hg];exact(keep_size (w:=w) (g:=g) (row:=none) (by solve_by_elim (maxDepth:=20) only[HK.out,zq.set_,zx,jz,jq])):w.heap.size≤gb101):w0.heap.size≤gb101));replace HK:=U.mk (zq.trans (by solve_by_elim (maxDepth:=20) only[HK.out,zq.set_,zx,jz,jq]) (zq.of_below hb g none) (.inl rfl));have NB0_101:=U.mk ((by rw[hg];exact Nat.ne_of_lt (kx.lt (show kx w0 _ g s0_0 s0_1 s0_2 from by repeat(first|(with_reducible first|exact HI0.out|apply kx.alloc|apply kx.drewN|apply kx.drew|apply kx.set_1|apply kx.set_2)|exact HI0.out))):g≠gb101));have NB101_0:=U.mk ((by rw[hg];exact Nat.ne_of_gt (kx.lt (show kx w0 _ g s0_0 s0_1 s0_2 from by repeat(first|(with_reducible first|exact HI0.out|apply kx.alloc|apply kx.drewN|apply kx.drew|apply kx.set_1|apply kx.set_2)|exact HI0.out))):gb101≠g));replace HI0:=U.mk (kx.below (by solve_by_elim (maxDepth:=20) only[HI0.out,kx.alloc,kx.drewN,kx.drew,kx.set_1,kx.set_2]) hb);clear hb hbox hg)|((with_reducible refine gate_dst (N:=4) rfl ?_);refine box_event ?hg (N:=4) ?hd (cs:=#[.int .i64 0,.int .i64 0,.string (⟨#[]⟩ : ByteArray),.string (⟨#[]⟩ : ByteArray)]) (t:=34) ?hr ?_;(case hd=>rfl);(case hg=>rfl);(case hr=>first|(go_simp;done)|(go_simp;rfl));intro gb102 hg w7 hbox hb;replace HB:=U.mk (zz (by solve_by_elim (maxDepth:=20) only[HB.out,G,J,qq,qk,(kx.ge HI0.out),qk,GE101.out]) hb);have BK102:=U.mk (hbox);have GW102:=U.mk ((by rw[hg];exact(keep_size (w:=w) (g:=g) (row:=none) (by solve_by_elim (maxDepth:=20) only[HK.out,zq.set_,zx,jz,jq,jj,GW101.out])):w.heap.size≤gb102));have GE102:=U.mk ((Nat.le_trans HW0.out (by rw[hg];exact(keep_size (w:=w) (g:=g) (row:=none) (by solve_by_elim (maxDepth:=20) only[HK.out,zq.set_,zx,jz,jq,jj,GW101.out])):w.heap.size≤gb102):w0.heap.size≤gb102));replace HK:=U.mk (zq.trans (by solve_by_elim (maxDepth:=20) only[HK.out,zq.set_,zx,jz,jq,jj,GW101.out]) (zq.of_below hb g none) (.inl rfl));have NB101_102:=U.mk ((by rw[hg];exact Nat.ne_of_lt (blk_lt (g:=gb101) (o:=.cells #[.int .i64 a1_0,.int .i64 a1_1,.string a1_2,.string a1_3] 34 (0,0)) (by solve_by_elim only[BK101.out,qw,qx,qv])):gb101≠gb102));have NB102_101:=U.mk ((by rw[hg];exact Nat.ne_of_gt (blk_lt (g:=gb101) (o:=.cells #[.int .i64 a1_0,.int .i64 a1_1,.string a1_2,.string a1_3] 34 (0,0)) (by solve_by_elim only[BK101.out,qw,qx,qv])):gb102≠gb101));replace BK101:=U.mk (kv (g:=gb101) (o:=.cells #[.int .i64 a1_0,.int .i64 a1_1,.string a1_2,.string a1_3] 34 (0,0)) (by solve_by_elim only[BK101.out,qw,qx,qv]) hb);have NB0_102:=U.mk ((by rw[hg];exact Nat.ne_of_lt (kx.lt (show kx w0 _ g s0_0 s0_1 s0_2 from by repeat(first|(with_reducible first|exact HI0.out|apply kx.alloc|apply kx.drewN|apply kx.drew|apply kx.set_1|apply kx.set_2|refine kx.far ?_ NB0_101.out _)|exact HI0.out))):g≠gb102));have NB102_0:=U.mk ((by rw[hg];exact Nat.ne_of_gt (kx.lt (show kx w0 _ g s0_0 s0_1 s0_2 from by repeat(first|(with_reducible first|exact HI0.out|apply kx.alloc|apply kx.drewN|apply kx.drew|apply kx.set_1|apply kx.set_2|refine kx.far ?_ NB0_101.out _)|exact HI0.out))):gb102≠g));replace HI0:=U.mk (kx.below (by solve_by_elim (maxDepth:=20) only[HI0.out,kx.alloc,kx.drewN,kx.drew,kx.set_1,kx.set_2,kx.far,NB0_101.out]) hb);clear hb hbox hg)|((with_reducible refine jw (f:=54) rfl ?_);refine goesL_ (some 8) rfl rfl Try.func54 (by kernel_rfl) rfl #[.pointer (some ⟨g,0,none⟩),.int .i64 16] rfl (by(try simp only[jq0,jq1,jq2]);first|done|rfl|(simp only[jq3,jq4];rfl)) ?_;(with_reducible refine(qjx.calls g s0_0 s0_1 s0_2 16 t103 t104 t105 w0 _ ?side1 ?side2 A3.out).mono ?_);(case side1=>repeat(first|(with_reducible first|exact HI0.out|apply kx.alloc|apply kx.drewN|apply kx.drew|apply kx.set_1|apply kx.set_2|refine kx.far ?_ NB0_101.out _|refine kx.far ?_ NB0_102.out _)|exact HI0.out));(case side2=>repeat(first|(with_reducible first|exact HB.out|apply G|apply J|apply qq|refine qk ?_ (kx.ge HI0.out)|refine qk ?_ GE101.out|refine qk ?_ GE102.out)|exact HB.out));rintro e w8 ⟨rfl,hi,hb,hk⟩;refine⟨_,rfl,?_⟩;replace BK101:=U.mk (zq.blk hk (g':=gb101) (o:=.cells #[.int .i64 a1_0,.int .i64 a1_1,.string a1_2,.string a1_3] 34 (0,0)) (by solve_by_elim only[BK101.out,qw,qx,qv]) NB101_0.out (by simp));replace BK102:=U.mk (zq.blk hk (g':=gb102) (o:=.cells #[.int .i64 0,.int .i64 0,.string (⟨#[]⟩ : ByteArray),.string (⟨#[]⟩ : ByteArray)] 34 (0,0)) (by solve_by_elim only[BK102.out,qw,qx,qv]) NB102_0.out (by simp));replace HK:=U.mk (zq.trans (by solve_by_elim (maxDepth:=20) only[HK.out,zq.set_,zx,jz,jq,jj,GW101.out,jj,GW102.out]) hk (.inl rfl));replace HB:=U.mk (hb);replace HI0:=U.mk (hi);(try clear hb hk hi))|((with_reducible refine jw (f:=54) rfl ?_);refine goesL_ (some 12) rfl rfl Try.func54 (by kernel_rfl) rfl #[.pointer (some ⟨g,0,none⟩),.int .i64 9] rfl (by(try simp only[jq0,jq1,jq2]);first|done|rfl|(simp only[jq3,jq4];rfl)) ?_;(with_reducible refine(qjx.calls g s0_0 t104 t105 9 t106 t107 t108 w0 _ ?side1 ?side2 A5.out).mono ?_);(case side1=>repeat(first|(with_reducible first|exact HI0.out|apply kx.alloc|apply kx.drewN|apply kx.drew|apply kx.set_1|apply kx.set_2|refine kx.far ?_ NB0_101.out _|refine kx.far ?_ NB0_102.out _)|exact HI0.out));(case side2=>repeat(first|(with_reducible first|exact HB.out|apply G|apply J|apply qq|refine qk ?_ (kx.ge HI0.out)|refine qk ?_ GE101.out|refine qk ?_ GE102.out)|exact HB.out));rintro e w9 ⟨rfl,hi,hb,hk⟩;refine⟨_,rfl,?_⟩;replace BK101:=U.mk (zq.blk hk (g':=gb101) (o:=.cells #[.int .i64 a1_0,.int .i64 a1_1,.string a1_2,.string a1_3] 34 (0,0)) (by solve_by_elim only[BK101.out,qw,qx,qv]) NB101_0.out (by simp));replace BK102:=U.mk (zq.blk hk (g':=gb102) (o:=.cells #[.int .i64 0,.int .i64 0,.string (⟨#[]⟩ : ByteArray),.string (⟨#[]⟩ : ByteArray)] 34 (0,0)) (by solve_by_elim only[BK102.out,qw,qx,qv]) NB102_0.out (by simp));replace HK:=U.mk (zq.trans (by solve_by_elim (maxDepth:=20) only[HK.out,zq.set_,zx,jz,jq,jj,GW101.out,jj,GW102.out]) hk (.inl rfl));replace HB:=U.mk (hb);replace HI0:=U.mk (hi);(try clear hb hk hi);have hnb10:=NB101_102.out;have hnc10:=NB102_101.out;have hnb11:=NB101_0.out;have hnc11:=NB0_101.out;have hcz12_0:w9.cell? ⟨gb101,0,none⟩ = some (.int .i64 a1_0):=(qj BK101.out 0).trans rfl;have hcz12_1:w9.cell? ⟨gb101,1,none⟩ = some (.int .i64 a1_1):=(qj BK101.out 1).trans rfl;have hcz12_2:w9.cell? ⟨gb101,2,none⟩ = some (.string a1_2):=(qj BK101.out 2).trans rfl;have hcz12_3:w9.cell? ⟨gb101,3,none⟩ = some (.string a1_3):=(qj BK101.out 3).trans rfl;have hfz12_0:=qz BK101.out 0;have hfz12_1:=qz BK101.out 1;have hfz12_2:=qz BK101.out 2;have hfz12_3:=qz BK101.out 3;have hnb13:=NB102_0.out;have hnc13:=NB0_102.out;have hcz14_0:w9.cell? ⟨gb102,0,none⟩ = some (.int .i64 0):=(qj BK102.out 0).trans rfl;have hcz14_1:w9.cell? ⟨gb102,1,none⟩ = some (.int .i64 0):=(qj BK102.out 1).trans rfl;have hcz14_2:w9.cell? ⟨gb102,2,none⟩ = some (.string (⟨#[]⟩ : ByteArray)):=(qj BK102.out 2).trans rfl;have hcz14_3:w9.cell? ⟨gb102,3,none⟩ = some (.string (⟨#[]⟩ : ByteArray)):=(qj BK102.out 3).trans rfl;have hfz14_0:=qz BK102.out 0;have hfz14_1:=qz BK102.out 1;have hfz14_2:=qz BK102.out 2;have hfz14_3:=qz BK102.out 3))
  refine bodyPost_ret (results_cell_row rfl _ _ gb102 34 #[.int .i64 t106,.int .i64 a1_1,.string a1_2,.string a1_3] (0,0) _ rfl (by(with_reducible repeat(first|refine qw ?_ _|refine qx ?_|refine qv ?_ _));refine blk_put (cs:=#[.int .i64 t106,.int .i64 a1_1,.string a1_2,.string (⟨#[]⟩ : ByteArray)]) ?_ 3 _ rfl;(with_reducible repeat(first|refine qw ?_ _|refine qx ?_|refine qv ?_ _));refine blk_put (cs:=#[.int .i64 t106,.int .i64 a1_1,.string (⟨#[]⟩ : ByteArray),.string (⟨#[]⟩ : ByteArray)]) ?_ 2 _ rfl;(with_reducible repeat(first|refine qw ?_ _|refine qx ?_|refine qv ?_ _));refine blk_put (cs:=#[.int .i64 t106,.int .i64 0,.string (⟨#[]⟩ : ByteArray),.string (⟨#[]⟩ : ByteArray)]) ?_ 1 _ rfl;(with_reducible repeat(first|refine qw ?_ _|refine qx ?_|refine qv ?_ _));refine blk_put (cs:=#[.int .i64 0,.int .i64 0,.string (⟨#[]⟩ : ByteArray),.string (⟨#[]⟩ : ByteArray)]) ?_ 0 _ rfl;(with_reducible repeat(first|refine qw ?_ _|refine qx ?_|refine qv ?_ _));refine blk_far ?_ NB102_101.out _;(with_reducible repeat(first|refine qw ?_ _|refine qx ?_|refine qv ?_ _));exact BK102.out) Try.underlying34 rfl (by kernel_rfl)) rfl ?_
  exact⟨by first|rfl|(simp[*,jv,jk] <;> rfl),by repeat(first|(with_reducible first|exact HI0.out|apply kx.alloc|apply kx.drewN|apply kx.drew|apply kx.set_1|apply kx.set_2|refine kx.far ?_ NB0_101.out _|refine kx.far ?_ NB0_102.out _)|exact HI0.out),by repeat(first|(with_reducible first|exact HB.out|apply G|apply J|apply qq|refine qk ?_ (kx.ge HI0.out)|refine qk ?_ GE101.out|refine qk ?_ GE102.out)|exact HB.out),by repeat(first|(with_reducible first|exact HK.out|apply zq.set_|apply zx|apply jz|apply jq|refine jj ?_ GW101.out _|refine jj ?_ GW102.out _)|exact HK.out)⟩
 ·rw[if_neg c4] at H
  have c4b0:(t103 == 0)=false:=beq_eq_false_iff_ne.mpr c4
  have c4b1:(t103 != 0)=true:=bne_iff_ne.mpr c4
  by_cases c15:t103=1
  ·rw[if_pos c15] at H
   have c15b0:(t103 == 1)=true:=beq_iff_eq.mpr c15
   have c15b1:(t103 != 1)=false:=bne_eq_false_iff_eq.mpr c15
   clear c15
   replace H:=jq8.mp H
   obtain⟨t109,A160,H⟩:=H
   try dsimp only at H
   have A16:=U.mk A160
   clear A160
   obtain⟨y110,hy110⟩ : ∃ y_:List Int,y_=(([(-1),2,33,wrap64 ((wrap64 (64 * t109)) + 1),100000000001,(-100000000000),65]:List Int)):=⟨_,rfl⟩
   replace H:((qjx.f s0_0 t104 t105 7).bind fun bt113=>(if 0≤bt113.1 then(if bt113.1 < (y110.length:Int) then(some (a1_0,rd y110 bt113.1,a1_2,a1_3,bt113.2.1,bt113.2.2)) else(none)) else(none)))=some (r1,r2,r3,r4,r5,r6):=by first|(rw[hy110];with_reducible exact H)|(have H2_:=(Option.bind_some _ _).symm.trans H;rw[hy110];with_reducible exact H2_)|(have H2_:=(Option.bind_some _ _).symm.trans H;with_reducible exact H2_)|with_reducible exact H|(rw[hy110];exact H)|exact H
   have Ny110:=U.mk hy110
   clear hy110
   replace H:=jq8.mp H
   obtain⟨⟨t113,t114,t115⟩,A170,H⟩:=H
   try dsimp only at H
   have A17:=U.mk A170
   clear A170
   by_cases c18 : 0≤t113
   ·rw[if_pos c18] at H
    have c18b0:decide (0≤t113)=true:=decide_eq_true c18
    clear c18
    by_cases c19:t113 < (y110.length:Int)
    ·rw[if_pos c19] at H
     have c19b0:decide (t113 < (y110.length:Int))=true:=decide_eq_true c19
     clear c19
     simp only[Option.some.injEq,Prod.mk.injEq] at H
     obtain⟨rfl,rfl,rfl,rfl,rfl,rfl⟩:=H
     go_enter Try.func87,Try.ntmps87
     go_wp2_with (first|((with_reducible refine gate_dst (N:=3) rfl ?_);refine box_event ?hg (N:=3) ?hd (cs:=#[.int .i64 a1_0,.int .i64 a1_1,.string a1_2,.string a1_3]) (t:=34) ?hr ?_;(case hd=>rfl);(case hg=>rfl);(case hr=>first|(go_simp;done)|(go_simp;rfl));intro gb101 hg w20 hbox hb;replace HB:=U.mk (zz (by solve_by_elim (maxDepth:=20) only[HB.out,G,J,qq,qk,(kx.ge HI0.out)]) hb);have BK101:=U.mk (hbox);have GW101:=U.mk ((by rw[hg];exact(keep_size (w:=w) (g:=g) (row:=none) (by solve_by_elim (maxDepth:=20) only[HK.out,zq.set_,zx,jz,jq])):w.heap.size≤gb101));have GE101:=U.mk ((Nat.le_trans HW0.out (by rw[hg];exact(keep_size (w:=w) (g:=g) (row:=none) (by solve_by_elim (maxDepth:=20) only[HK.out,zq.set_,zx,jz,jq])):w.heap.size≤gb101):w0.heap.size≤gb101));replace HK:=U.mk (zq.trans (by solve_by_elim (maxDepth:=20) only[HK.out,zq.set_,zx,jz,jq]) (zq.of_below hb g none) (.inl rfl));have NB0_101:=U.mk ((by rw[hg];exact Nat.ne_of_lt (kx.lt (show kx w0 _ g s0_0 s0_1 s0_2 from by repeat(first|(with_reducible first|exact HI0.out|apply kx.alloc|apply kx.drewN|apply kx.drew|apply kx.set_1|apply kx.set_2)|exact HI0.out))):g≠gb101));have NB101_0:=U.mk ((by rw[hg];exact Nat.ne_of_gt (kx.lt (show kx w0 _ g s0_0 s0_1 s0_2 from by repeat(first|(with_reducible first|exact HI0.out|apply kx.alloc|apply kx.drewN|apply kx.drew|apply kx.set_1|apply kx.set_2)|exact HI0.out))):gb101≠g));replace HI0:=U.mk (kx.below (by solve_by_elim (maxDepth:=20) only[HI0.out,kx.alloc,kx.drewN,kx.drew,kx.set_1,kx.set_2]) hb);clear hb hbox hg)|((with_reducible refine gate_dst (N:=4) rfl ?_);refine box_event ?hg (N:=4) ?hd (cs:=#[.int .i64 0,.int .i64 0,.string (⟨#[]⟩ : ByteArray),.string (⟨#[]⟩ : ByteArray)]) (t:=34) ?hr ?_;(case hd=>rfl);(case hg=>rfl);(case hr=>first|(go_simp;done)|(go_simp;rfl));intro gb102 hg w21 hbox hb;replace HB:=U.mk (zz (by solve_by_elim (maxDepth:=20) only[HB.out,G,J,qq,qk,(kx.ge HI0.out),qk,GE101.out]) hb);have BK102:=U.mk (hbox);have GW102:=U.mk ((by rw[hg];exact(keep_size (w:=w) (g:=g) (row:=none) (by solve_by_elim (maxDepth:=20) only[HK.out,zq.set_,zx,jz,jq,jj,GW101.out])):w.heap.size≤gb102));have GE102:=U.mk ((Nat.le_trans HW0.out (by rw[hg];exact(keep_size (w:=w) (g:=g) (row:=none) (by solve_by_elim (maxDepth:=20) only[HK.out,zq.set_,zx,jz,jq,jj,GW101.out])):w.heap.size≤gb102):w0.heap.size≤gb102));replace HK:=U.mk (zq.trans (by solve_by_elim (maxDepth:=20) only[HK.out,zq.set_,zx,jz,jq,jj,GW101.out]) (zq.of_below hb g none) (.inl rfl));have NB101_102:=U.mk ((by rw[hg];exact Nat.ne_of_lt (blk_lt (g:=gb101) (o:=.cells #[.int .i64 a1_0,.int .i64 a1_1,.string a1_2,.string a1_3] 34 (0,0)) (by solve_by_elim only[BK101.out,qw,qx,qv])):gb101≠gb102));have NB102_101:=U.mk ((by rw[hg];exact Nat.ne_of_gt (blk_lt (g:=gb101) (o:=.cells #[.int .i64 a1_0,.int .i64 a1_1,.string a1_2,.string a1_3] 34 (0,0)) (by solve_by_elim only[BK101.out,qw,qx,qv])):gb102≠gb101));replace BK101:=U.mk (kv (g:=gb101) (o:=.cells #[.int .i64 a1_0,.int .i64 a1_1,.string a1_2,.string a1_3] 34 (0,0)) (by solve_by_elim only[BK101.out,qw,qx,qv]) hb);have NB0_102:=U.mk ((by rw[hg];exact Nat.ne_of_lt (kx.lt (show kx w0 _ g s0_0 s0_1 s0_2 from by repeat(first|(with_reducible first|exact HI0.out|apply kx.alloc|apply kx.drewN|apply kx.drew|apply kx.set_1|apply kx.set_2|refine kx.far ?_ NB0_101.out _)|exact HI0.out))):g≠gb102));have NB102_0:=U.mk ((by rw[hg];exact Nat.ne_of_gt (kx.lt (show kx w0 _ g s0_0 s0_1 s0_2 from by repeat(first|(with_reducible first|exact HI0.out|apply kx.alloc|apply kx.drewN|apply kx.drew|apply kx.set_1|apply kx.set_2|refine kx.far ?_ NB0_101.out _)|exact HI0.out))):gb102≠g));replace HI0:=U.mk (kx.below (by solve_by_elim (maxDepth:=20) only[HI0.out,kx.alloc,kx.drewN,kx.drew,kx.set_1,kx.set_2,kx.far,NB0_101.out]) hb);clear hb hbox hg)|((with_reducible refine jw (f:=54) rfl ?_);refine goesL_ (some 8) rfl rfl Try.func54 (by kernel_rfl) rfl #[.pointer (some ⟨g,0,none⟩),.int .i64 16] rfl (by(try simp only[jq0,jq1,jq2]);first|done|rfl|(simp only[jq3,jq4];rfl)) ?_;(with_reducible refine(qjx.calls g s0_0 s0_1 s0_2 16 t103 t104 t105 w0 _ ?side1 ?side2 A3.out).mono ?_);(case side1=>repeat(first|(with_reducible first|exact HI0.out|apply kx.alloc|apply kx.drewN|apply kx.drew|apply kx.set_1|apply kx.set_2|refine kx.far ?_ NB0_101.out _|refine kx.far ?_ NB0_102.out _)|exact HI0.out));(case side2=>repeat(first|(with_reducible first|exact HB.out|apply G|apply J|apply qq|refine qk ?_ (kx.ge HI0.out)|refine qk ?_ GE101.out|refine qk ?_ GE102.out)|exact HB.out));rintro e w22 ⟨rfl,hi,hb,hk⟩;refine⟨_,rfl,?_⟩;replace BK101:=U.mk (zq.blk hk (g':=gb101) (o:=.cells #[.int .i64 a1_0,.int .i64 a1_1,.string a1_2,.string a1_3] 34 (0,0)) (by solve_by_elim only[BK101.out,qw,qx,qv]) NB101_0.out (by simp));replace BK102:=U.mk (zq.blk hk (g':=gb102) (o:=.cells #[.int .i64 0,.int .i64 0,.string (⟨#[]⟩ : ByteArray),.string (⟨#[]⟩ : ByteArray)] 34 (0,0)) (by solve_by_elim only[BK102.out,qw,qx,qv]) NB102_0.out (by simp));replace HK:=U.mk (zq.trans (by solve_by_elim (maxDepth:=20) only[HK.out,zq.set_,zx,jz,jq,jj,GW101.out,jj,GW102.out]) hk (.inl rfl));replace HB:=U.mk (hb);replace HI0:=U.mk (hi);(try clear hb hk hi))|((with_reducible refine jw (f:=74) rfl ?_);refine goesL_ (some 16) rfl rfl Try.func74 (by kernel_rfl) rfl #[.int .i64 32] rfl (by(try simp only[jq0,jq1,jq2]);first|done|rfl|(simp only[jq3,jq4];rfl)) ?_;(with_reducible refine(qkv.calls k 32 t109 _ A16.out).mono ?_);rintro e w' ⟨rfl,⟨nd,rfl⟩⟩;refine⟨_,rfl,?_⟩;(try (rw[drewN_self w22];generalize hq_:World.drewN w22 _=w22;have n0_:U (w22.heap[gb101]? = some (.cells #[.int .i64 a1_0,.int .i64 a1_1,.string a1_2,.string a1_3] 34 (0,0))):=⟨by rw[← hq_];exact(by solve_by_elim only[BK101.out,qw,qx,qv])⟩;have n1_:U (w22.heap[gb102]? = some (.cells #[.int .i64 0,.int .i64 0,.string (⟨#[]⟩ : ByteArray),.string (⟨#[]⟩ : ByteArray)] 34 (0,0))):=⟨by rw[← hq_];exact(by solve_by_elim only[BK102.out,qw,qx,qv])⟩;have n2_:U (kx w0 w22 g s0_0 t104 t105):=⟨by rw[← hq_];exact(by solve_by_elim (maxDepth:=20) only[HI0.out,kx.alloc,kx.drewN,kx.drew,kx.set_1,kx.set_2,kx.far,NB0_101.out,kx.far,NB0_102.out])⟩;have n3_:U (zq w w22 g none):=⟨by rw[← hq_];exact(by solve_by_elim (maxDepth:=20) only[HK.out,zq.set_,zx,jz,jq,jj,GW101.out,jj,GW102.out])⟩;have n4_:U (Below w0.heap.size w0 w22):=⟨by rw[← hq_];exact(by solve_by_elim (maxDepth:=20) only[HB.out,G,J,qq,qk,(kx.ge HI0.out),qk,GE101.out,qk,GE102.out])⟩;clear BK101 BK102 HI0 HK HB hq_;have BK101:=n0_;have BK102:=n1_;have HI0:=n2_;have HK:=n3_;have HB:=n4_;clear n0_ n1_ n2_ n3_ n4_)))|((with_reducible refine gate_dst (N:=19) rfl ?_);refine Kd.R_lit (Kd.int .i64) _ 3 ?hg (N:=19) ?hd (xs:=([(-1),2,33,wrap64 ((wrap64 (64 * t109)) + 1),100000000001,(-100000000000),65]:List Int)) (inner:=[.int .i64 (-1),.int .i64 2,.int .i64 33,.int .i64 (wrap64 ((wrap64 (64 * t109)) + 1)),.int .i64 100000000001,.int .i64 (-100000000000),.int .i64 65]) (ok:=fun _=>True) (okp:=fun _=>True) ?hr ?hp (fun _ hk=>hk) trivial (Below.refl _ _) (Nat.le_refl _) (by simp) ?_;(case hd=>rfl);(case hg=>rfl);(case hr=>first|(go_simp;done)|(go_simp;rfl));(case hp=>exact(Reps.one (show Kd.M (Kd.int .i64) _ _ _ (-1) [.int .i64 (-1)] from rfl) (Reps.one (show Kd.M (Kd.int .i64) _ _ _ 2 [.int .i64 2] from rfl) (Reps.one (show Kd.M (Kd.int .i64) _ _ _ 33 [.int .i64 33] from rfl) (Reps.one (show Kd.M (Kd.int .i64) _ _ _ (wrap64 ((wrap64 (64 * t109)) + 1)) [.int .i64 (wrap64 ((wrap64 (64 * t109)) + 1))] from rfl) (Reps.one (show Kd.M (Kd.int .i64) _ _ _ 100000000001 [.int .i64 100000000001] from rfl) (Reps.one (show Kd.M (Kd.int .i64) _ _ _ (-100000000000) [.int .i64 (-100000000000)] from rfl) (Reps.one (show Kd.M (Kd.int .i64) _ _ _ 65 [.int .i64 65] from rfl) (Reps.none _ _)))))))));intro v111 w23 ho24 hb hg_ hnew_;clear hg_ hnew_;(first|rw[← Ny110.out] at ho24|(simp only[Int.reduceToNat] at ho24;rw[← Ny110.out] at ho24));have HO112:=U.mk (Kd.R_lower ho24 (keep_size (w:=w) (g:=g) (row:=none) (by solve_by_elim (maxDepth:=20) only[HK.out,zq.set_,zx,jz,jq,jj,GW101.out,jj,GW102.out])));replace BK101:=U.mk (kv (g:=gb101) (o:=.cells #[.int .i64 a1_0,.int .i64 a1_1,.string a1_2,.string a1_3] 34 (0,0)) (by solve_by_elim only[BK101.out,qw,qx,qv]) hb);replace BK102:=U.mk (kv (g:=gb102) (o:=.cells #[.int .i64 0,.int .i64 0,.string (⟨#[]⟩ : ByteArray),.string (⟨#[]⟩ : ByteArray)] 34 (0,0)) (by solve_by_elim only[BK102.out,qw,qx,qv]) hb);replace HK:=U.mk (zq.trans (by solve_by_elim (maxDepth:=20) only[HK.out,zq.set_,zx,jz,jq,jj,GW101.out,jj,GW102.out]) (zq.of_below hb g none) (.inl rfl));replace HB:=U.mk (zz (by solve_by_elim (maxDepth:=20) only[HB.out,G,J,qq,qk,(kx.ge HI0.out),qk,GE101.out,qk,GE102.out]) hb);replace HI0:=U.mk (kx.below (by solve_by_elim (maxDepth:=20) only[HI0.out,kx.alloc,kx.drewN,kx.drew,kx.set_1,kx.set_2,kx.far,NB0_101.out,kx.far,NB0_102.out]) hb);clear hb ho24)|((with_reducible refine jw (f:=54) rfl ?_);refine goesL_ (some 21) rfl rfl Try.func54 (by kernel_rfl) rfl #[.pointer (some ⟨g,0,none⟩),.int .i64 7] rfl (by(try simp only[jq0,jq1,jq2]);first|done|rfl|(simp only[jq3,jq4];rfl)) ?_;(with_reducible refine(qjx.calls g s0_0 t104 t105 7 t113 t114 t115 w0 _ ?side1 ?side2 A17.out).mono ?_);(case side1=>repeat(first|(with_reducible first|exact HI0.out|apply kx.alloc|apply kx.drewN|apply kx.drew|apply kx.set_1|apply kx.set_2|refine kx.far ?_ NB0_101.out _|refine kx.far ?_ NB0_102.out _)|exact HI0.out));(case side2=>repeat(first|(with_reducible first|exact HB.out|apply G|apply J|apply qq|refine qk ?_ (kx.ge HI0.out)|refine qk ?_ GE101.out|refine qk ?_ GE102.out)|exact HB.out));rintro e w25 ⟨rfl,hi,hb,hk⟩;refine⟨_,rfl,?_⟩;replace BK101:=U.mk (zq.blk hk (g':=gb101) (o:=.cells #[.int .i64 a1_0,.int .i64 a1_1,.string a1_2,.string a1_3] 34 (0,0)) (by solve_by_elim only[BK101.out,qw,qx,qv]) NB101_0.out (by simp));replace BK102:=U.mk (zq.blk hk (g':=gb102) (o:=.cells #[.int .i64 0,.int .i64 0,.string (⟨#[]⟩ : ByteArray),.string (⟨#[]⟩ : ByteArray)] 34 (0,0)) (by solve_by_elim only[BK102.out,qw,qx,qv]) NB102_0.out (by simp));replace HO112:=U.mk (Kd.R_mono (Kd.R_keep (kx.apart (show kx w0 _ g s0_0 t104 t105 from by repeat(first|(with_reducible first|exact HI0.out|apply kx.alloc|apply kx.drewN|apply kx.drew|apply kx.set_1|apply kx.set_2|refine kx.far ?_ NB0_101.out _|refine kx.far ?_ NB0_102.out _)|exact HI0.out)) (by solve_by_elim only[HO112.out,Kd.zv,Kd.zk,Kd.zw]) (by decide)) hk (fun _ h=>h.2)) (fun _ h=>h.1));replace HK:=U.mk (zq.trans (by solve_by_elim (maxDepth:=20) only[HK.out,zq.set_,zx,jz,jq,jj,GW101.out,jj,GW102.out]) hk (.inl rfl));replace HB:=U.mk (hb);replace HI0:=U.mk (hi);(try clear hb hk hi);obtain⟨Ao26,co26,eo26⟩:=Kd.R_slice HO112.out;subst eo26;have p116 : 0≤(t113:Int):=of_decide_eq_true (by assumption);have q116:t113 < (y110.length:Int):=of_decide_eq_true (by assumption);obtain⟨ad116,e116,hx116_0⟩:=Kd.at_int (Kd.R_reads' HO112.out).2.2 t113 p116 q116;cases e116;replace p116:=eq_true p116;replace q116:=eq_true q116;have hnb27:=NB101_102.out;have hnc27:=NB102_101.out;have hnb28:=NB101_0.out;have hnc28:=NB0_101.out;have hcz29_0:w25.cell? ⟨gb101,0,none⟩ = some (.int .i64 a1_0):=(qj BK101.out 0).trans rfl;have hcz29_1:w25.cell? ⟨gb101,1,none⟩ = some (.int .i64 a1_1):=(qj BK101.out 1).trans rfl;have hcz29_2:w25.cell? ⟨gb101,2,none⟩ = some (.string a1_2):=(qj BK101.out 2).trans rfl;have hcz29_3:w25.cell? ⟨gb101,3,none⟩ = some (.string a1_3):=(qj BK101.out 3).trans rfl;have hfz29_0:=qz BK101.out 0;have hfz29_1:=qz BK101.out 1;have hfz29_2:=qz BK101.out 2;have hfz29_3:=qz BK101.out 3;have hnb30:=NB102_0.out;have hnc30:=NB0_102.out;have hcz31_0:w25.cell? ⟨gb102,0,none⟩ = some (.int .i64 0):=(qj BK102.out 0).trans rfl;have hcz31_1:w25.cell? ⟨gb102,1,none⟩ = some (.int .i64 0):=(qj BK102.out 1).trans rfl;have hcz31_2:w25.cell? ⟨gb102,2,none⟩ = some (.string (⟨#[]⟩ : ByteArray)):=(qj BK102.out 2).trans rfl;have hcz31_3:w25.cell? ⟨gb102,3,none⟩ = some (.string (⟨#[]⟩ : ByteArray)):=(qj BK102.out 3).trans rfl;have hfz31_0:=qz BK102.out 0;have hfz31_1:=qz BK102.out 1;have hfz31_2:=qz BK102.out 2;have hfz31_3:=qz BK102.out 3))
     refine bodyPost_ret (results_cell_row rfl _ _ gb102 34 #[.int .i64 a1_0,.int .i64 (rd y110 t113),.string a1_2,.string a1_3] (0,0) _ rfl (by(with_reducible repeat(first|refine qw ?_ _|refine qx ?_|refine qv ?_ _));refine blk_put (cs:=#[.int .i64 a1_0,.int .i64 (rd y110 t113),.string a1_2,.string (⟨#[]⟩ : ByteArray)]) ?_ 3 _ rfl;(with_reducible repeat(first|refine qw ?_ _|refine qx ?_|refine qv ?_ _));refine blk_put (cs:=#[.int .i64 a1_0,.int .i64 (rd y110 t113),.string (⟨#[]⟩ : ByteArray),.string (⟨#[]⟩ : ByteArray)]) ?_ 2 _ rfl;(with_reducible repeat(first|refine qw ?_ _|refine qx ?_|refine qv ?_ _));refine blk_put (cs:=#[.int .i64 a1_0,.int .i64 0,.string (⟨#[]⟩ : ByteArray),.string (⟨#[]⟩ : ByteArray)]) ?_ 1 _ rfl;(with_reducible repeat(first|refine qw ?_ _|refine qx ?_|refine qv ?_ _));refine blk_put (cs:=#[.int .i64 0,.int .i64 0,.string (⟨#[]⟩ : ByteArray),.string (⟨#[]⟩ : ByteArray)]) ?_ 0 _ rfl;(with_reducible repeat(first|refine qw ?_ _|refine qx ?_|refine qv ?_ _));refine blk_far ?_ NB102_101.out _;(with_reducible repeat(first|refine qw ?_ _|refine qx ?_|refine qv ?_ _));exact BK102.out) Try.underlying34 rfl (by kernel_rfl)) rfl ?_
     exact⟨by first|rfl|(simp[*,jv,jk] <;> rfl),by repeat(first|(with_reducible first|exact HI0.out|apply kx.alloc|apply kx.drewN|apply kx.drew|apply kx.set_1|apply kx.set_2|refine kx.far ?_ NB0_101.out _|refine kx.far ?_ NB0_102.out _)|exact HI0.out),by repeat(first|(with_reducible first|exact HB.out|apply G|apply J|apply qq|refine qk ?_ (kx.ge HI0.out)|refine qk ?_ GE101.out|refine qk ?_ GE102.out)|exact HB.out),by repeat(first|(with_reducible first|exact HK.out|apply zq.set_|apply zx|apply jz|apply jq|refine jj ?_ GW101.out _|refine jj ?_ GW102.out _)|exact HK.out)⟩
    ·rw[if_neg c19] at H
     exact absurd H (by simp)
   ·rw[if_neg c18] at H
    exact absurd H (by simp)
  ·rw[if_neg c15] at H
   have c15b0:(t103 == 1)=false:=beq_eq_false_iff_ne.mpr c15
   have c15b1:(t103 != 1)=true:=bne_iff_ne.mpr c15
   by_cases c32:t103=2
   ·rw[if_pos c32] at H
    have c32b0:(t103 == 2)=true:=beq_iff_eq.mpr c32
    have c32b1:(t103 != 2)=false:=bne_eq_false_iff_eq.mpr c32
    clear c32
    obtain⟨y117,hy117⟩ : ∃ y_:List ByteArray,y_=(([(⟨#[]⟩ : ByteArray),(⟨#[120]⟩ : ByteArray),(⟨#[97,9,98]⟩ : ByteArray)]:List ByteArray)):=⟨_,rfl⟩
    replace H:((qjv.f s0_0 t104 t105 y117).bind fun bt120=>(some (a1_0,a1_1,bt120.1,a1_3,bt120.2.1,bt120.2.2)))=some (r1,r2,r3,r4,r5,r6):=by first|(rw[hy117];with_reducible exact H)|(have H2_:=(Option.bind_some _ _).symm.trans H;rw[hy117];with_reducible exact H2_)|(have H2_:=(Option.bind_some _ _).symm.trans H;with_reducible exact H2_)|with_reducible exact H|(rw[hy117];exact H)|exact H
    have Ny117:=U.mk hy117
    clear hy117
    replace H:=jq8.mp H
    obtain⟨⟨t120,t121,t122⟩,A330,H⟩:=H
    try dsimp only at H
    have A33:=U.mk A330
    clear A330
    simp only[Option.some.injEq,Prod.mk.injEq] at H
    obtain⟨rfl,rfl,rfl,rfl,rfl,rfl⟩:=H
    go_enter Try.func87,Try.ntmps87
    go_wp2_with (first|((with_reducible refine gate_dst (N:=3) rfl ?_);refine box_event ?hg (N:=3) ?hd (cs:=#[.int .i64 a1_0,.int .i64 a1_1,.string a1_2,.string a1_3]) (t:=34) ?hr ?_;(case hd=>rfl);(case hg=>rfl);(case hr=>first|(go_simp;done)|(go_simp;rfl));intro gb101 hg w34 hbox hb;replace HB:=U.mk (zz (by solve_by_elim (maxDepth:=20) only[HB.out,G,J,qq,qk,(kx.ge HI0.out)]) hb);have BK101:=U.mk (hbox);have GW101:=U.mk ((by rw[hg];exact(keep_size (w:=w) (g:=g) (row:=none) (by solve_by_elim (maxDepth:=20) only[HK.out,zq.set_,zx,jz,jq])):w.heap.size≤gb101));have GE101:=U.mk ((Nat.le_trans HW0.out (by rw[hg];exact(keep_size (w:=w) (g:=g) (row:=none) (by solve_by_elim (maxDepth:=20) only[HK.out,zq.set_,zx,jz,jq])):w.heap.size≤gb101):w0.heap.size≤gb101));replace HK:=U.mk (zq.trans (by solve_by_elim (maxDepth:=20) only[HK.out,zq.set_,zx,jz,jq]) (zq.of_below hb g none) (.inl rfl));have NB0_101:=U.mk ((by rw[hg];exact Nat.ne_of_lt (kx.lt (show kx w0 _ g s0_0 s0_1 s0_2 from by repeat(first|(with_reducible first|exact HI0.out|apply kx.alloc|apply kx.drewN|apply kx.drew|apply kx.set_1|apply kx.set_2)|exact HI0.out))):g≠gb101));have NB101_0:=U.mk ((by rw[hg];exact Nat.ne_of_gt (kx.lt (show kx w0 _ g s0_0 s0_1 s0_2 from by repeat(first|(with_reducible first|exact HI0.out|apply kx.alloc|apply kx.drewN|apply kx.drew|apply kx.set_1|apply kx.set_2)|exact HI0.out))):gb101≠g));replace HI0:=U.mk (kx.below (by solve_by_elim (maxDepth:=20) only[HI0.out,kx.alloc,kx.drewN,kx.drew,kx.set_1,kx.set_2]) hb);clear hb hbox hg)|((with_reducible refine gate_dst (N:=4) rfl ?_);refine box_event ?hg (N:=4) ?hd (cs:=#[.int .i64 0,.int .i64 0,.string (⟨#[]⟩ : ByteArray),.string (⟨#[]⟩ : ByteArray)]) (t:=34) ?hr ?_;(case hd=>rfl);(case hg=>rfl);(case hr=>first|(go_simp;done)|(go_simp;rfl));intro gb102 hg w35 hbox hb;replace HB:=U.mk (zz (by solve_by_elim (maxDepth:=20) only[HB.out,G,J,qq,qk,(kx.ge HI0.out),qk,GE101.out]) hb);have BK102:=U.mk (hbox);have GW102:=U.mk ((by rw[hg];exact(keep_size (w:=w) (g:=g) (row:=none) (by solve_by_elim (maxDepth:=20) only[HK.out,zq.set_,zx,jz,jq,jj,GW101.out])):w.heap.size≤gb102));have GE102:=U.mk ((Nat.le_trans HW0.out (by rw[hg];exact(keep_size (w:=w) (g:=g) (row:=none) (by solve_by_elim (maxDepth:=20) only[HK.out,zq.set_,zx,jz,jq,jj,GW101.out])):w.heap.size≤gb102):w0.heap.size≤gb102));replace HK:=U.mk (zq.trans (by solve_by_elim (maxDepth:=20) only[HK.out,zq.set_,zx,jz,jq,jj,GW101.out]) (zq.of_below hb g none) (.inl rfl));have NB101_102:=U.mk ((by rw[hg];exact Nat.ne_of_lt (blk_lt (g:=gb101) (o:=.cells #[.int .i64 a1_0,.int .i64 a1_1,.string a1_2,.string a1_3] 34 (0,0)) (by solve_by_elim only[BK101.out,qw,qx,qv])):gb101≠gb102));have NB102_101:=U.mk ((by rw[hg];exact Nat.ne_of_gt (blk_lt (g:=gb101) (o:=.cells #[.int .i64 a1_0,.int .i64 a1_1,.string a1_2,.string a1_3] 34 (0,0)) (by solve_by_elim only[BK101.out,qw,qx,qv])):gb102≠gb101));replace BK101:=U.mk (kv (g:=gb101) (o:=.cells #[.int .i64 a1_0,.int .i64 a1_1,.string a1_2,.string a1_3] 34 (0,0)) (by solve_by_elim only[BK101.out,qw,qx,qv]) hb);have NB0_102:=U.mk ((by rw[hg];exact Nat.ne_of_lt (kx.lt (show kx w0 _ g s0_0 s0_1 s0_2 from by repeat(first|(with_reducible first|exact HI0.out|apply kx.alloc|apply kx.drewN|apply kx.drew|apply kx.set_1|apply kx.set_2|refine kx.far ?_ NB0_101.out _)|exact HI0.out))):g≠gb102));have NB102_0:=U.mk ((by rw[hg];exact Nat.ne_of_gt (kx.lt (show kx w0 _ g s0_0 s0_1 s0_2 from by repeat(first|(with_reducible first|exact HI0.out|apply kx.alloc|apply kx.drewN|apply kx.drew|apply kx.set_1|apply kx.set_2|refine kx.far ?_ NB0_101.out _)|exact HI0.out))):gb102≠g));replace HI0:=U.mk (kx.below (by solve_by_elim (maxDepth:=20) only[HI0.out,kx.alloc,kx.drewN,kx.drew,kx.set_1,kx.set_2,kx.far,NB0_101.out]) hb);clear hb hbox hg)|((with_reducible refine jw (f:=54) rfl ?_);refine goesL_ (some 8) rfl rfl Try.func54 (by kernel_rfl) rfl #[.pointer (some ⟨g,0,none⟩),.int .i64 16] rfl (by(try simp only[jq0,jq1,jq2]);first|done|rfl|(simp only[jq3,jq4];rfl)) ?_;(with_reducible refine(qjx.calls g s0_0 s0_1 s0_2 16 t103 t104 t105 w0 _ ?side1 ?side2 A3.out).mono ?_);(case side1=>repeat(first|(with_reducible first|exact HI0.out|apply kx.alloc|apply kx.drewN|apply kx.drew|apply kx.set_1|apply kx.set_2|refine kx.far ?_ NB0_101.out _|refine kx.far ?_ NB0_102.out _)|exact HI0.out));(case side2=>repeat(first|(with_reducible first|exact HB.out|apply G|apply J|apply qq|refine qk ?_ (kx.ge HI0.out)|refine qk ?_ GE101.out|refine qk ?_ GE102.out)|exact HB.out));rintro e w36 ⟨rfl,hi,hb,hk⟩;refine⟨_,rfl,?_⟩;replace BK101:=U.mk (zq.blk hk (g':=gb101) (o:=.cells #[.int .i64 a1_0,.int .i64 a1_1,.string a1_2,.string a1_3] 34 (0,0)) (by solve_by_elim only[BK101.out,qw,qx,qv]) NB101_0.out (by simp));replace BK102:=U.mk (zq.blk hk (g':=gb102) (o:=.cells #[.int .i64 0,.int .i64 0,.string (⟨#[]⟩ : ByteArray),.string (⟨#[]⟩ : ByteArray)] 34 (0,0)) (by solve_by_elim only[BK102.out,qw,qx,qv]) NB102_0.out (by simp));replace HK:=U.mk (zq.trans (by solve_by_elim (maxDepth:=20) only[HK.out,zq.set_,zx,jz,jq,jj,GW101.out,jj,GW102.out]) hk (.inl rfl));replace HB:=U.mk (hb);replace HI0:=U.mk (hi);(try clear hb hk hi))|((with_reducible refine gate_dst (N:=28) rfl ?_);refine Kd.R_lit Kd.string _ 9 ?hg (N:=28) ?hd (xs:=([(⟨#[]⟩ : ByteArray),(⟨#[120]⟩ : ByteArray),(⟨#[97,9,98]⟩ : ByteArray)]:List ByteArray)) (inner:=[.string (⟨#[]⟩ : ByteArray),.string (⟨#[120]⟩ : ByteArray),.string (⟨#[97,9,98]⟩ : ByteArray)]) (ok:=fun _=>True) (okp:=fun _=>True) ?hr ?hp (fun _ hk=>hk) trivial (Below.refl _ _) (Nat.le_refl _) (by simp) ?_;(case hd=>rfl);(case hg=>rfl);(case hr=>first|(go_simp;done)|(go_simp;rfl));(case hp=>exact(Reps.one (show Kd.M Kd.string _ _ _ (⟨#[]⟩ : ByteArray) [.string (⟨#[]⟩ : ByteArray)] from rfl) (Reps.one (show Kd.M Kd.string _ _ _ (⟨#[120]⟩ : ByteArray) [.string (⟨#[120]⟩ : ByteArray)] from rfl) (Reps.one (show Kd.M Kd.string _ _ _ (⟨#[97,9,98]⟩ : ByteArray) [.string (⟨#[97,9,98]⟩ : ByteArray)] from rfl) (Reps.none _ _)))));intro v118 w37 ho38 hb hg_ hnew_;clear hg_ hnew_;(first|rw[← Ny117.out] at ho38|(simp only[Int.reduceToNat] at ho38;rw[← Ny117.out] at ho38));have HO119:=U.mk (Kd.R_lower ho38 (keep_size (w:=w) (g:=g) (row:=none) (by solve_by_elim (maxDepth:=20) only[HK.out,zq.set_,zx,jz,jq,jj,GW101.out,jj,GW102.out])));replace BK101:=U.mk (kv (g:=gb101) (o:=.cells #[.int .i64 a1_0,.int .i64 a1_1,.string a1_2,.string a1_3] 34 (0,0)) (by solve_by_elim only[BK101.out,qw,qx,qv]) hb);replace BK102:=U.mk (kv (g:=gb102) (o:=.cells #[.int .i64 0,.int .i64 0,.string (⟨#[]⟩ : ByteArray),.string (⟨#[]⟩ : ByteArray)] 34 (0,0)) (by solve_by_elim only[BK102.out,qw,qx,qv]) hb);replace HK:=U.mk (zq.trans (by solve_by_elim (maxDepth:=20) only[HK.out,zq.set_,zx,jz,jq,jj,GW101.out,jj,GW102.out]) (zq.of_below hb g none) (.inl rfl));replace HB:=U.mk (zz (by solve_by_elim (maxDepth:=20) only[HB.out,G,J,qq,qk,(kx.ge HI0.out),qk,GE101.out,qk,GE102.out]) hb);replace HI0:=U.mk (kx.below (by solve_by_elim (maxDepth:=20) only[HI0.out,kx.alloc,kx.drewN,kx.drew,kx.set_1,kx.set_2,kx.far,NB0_101.out,kx.far,NB0_102.out]) hb);clear hb ho38;obtain⟨Ao39,co39,eo39⟩:=Kd.R_slice HO119.out;subst eo39)|((with_reducible refine jw (f:=55) rfl ?_);refine goesL_ (some 29) rfl rfl Try.func55 (by kernel_rfl) rfl #[.pointer (some ⟨g,0,none⟩),.slice Ao39 y117.length co39] rfl (by(try simp only[jq0,jq1,jq2]);first|done|rfl|(simp only[jq3,jq4];rfl)) ?_;(with_reducible refine(qjv.calls g s0_0 t104 t105 _ _ y117 t120 t121 t122 w0 _ ?side1 ?side2 ?side3 ?side4 ?side5 A33.out).mono ?_);(case side1=>repeat(first|(with_reducible first|exact HI0.out|apply kx.alloc|apply kx.drewN|apply kx.drew|apply kx.set_1|apply kx.set_2|refine kx.far ?_ NB0_101.out _|refine kx.far ?_ NB0_102.out _)|exact HI0.out));(case side2=>repeat(first|(with_reducible first|exact HB.out|apply G|apply J|apply qq|refine qk ?_ (kx.ge HI0.out)|refine qk ?_ GE101.out|refine qk ?_ GE102.out)|exact HB.out));(case side3=>solve_by_elim only[(Kd.R_reads' HO119.out).2.2,Kd.C_alloc,Kd.C_drewN,Kd.C_drew]);(case side4=>exact(Kd.R_reads' HO119.out).2.1);(case side5=>exact far_slice (kx.own_ne HI0.out HO119.out (by decide)));rintro e w40 ⟨rfl,hi,hb,hk⟩;refine⟨_,rfl,?_⟩;replace BK101:=U.mk (zq.blk hk (g':=gb101) (o:=.cells #[.int .i64 a1_0,.int .i64 a1_1,.string a1_2,.string a1_3] 34 (0,0)) (by solve_by_elim only[BK101.out,qw,qx,qv]) NB101_0.out (by simp));replace BK102:=U.mk (zq.blk hk (g':=gb102) (o:=.cells #[.int .i64 0,.int .i64 0,.string (⟨#[]⟩ : ByteArray),.string (⟨#[]⟩ : ByteArray)] 34 (0,0)) (by solve_by_elim only[BK102.out,qw,qx,qv]) NB102_0.out (by simp));replace HO119:=U.mk (Kd.R_mono (Kd.R_keep (kx.apart (show kx w0 _ g s0_0 t104 t105 from by repeat(first|(with_reducible first|exact HI0.out|apply kx.alloc|apply kx.drewN|apply kx.drew|apply kx.set_1|apply kx.set_2|refine kx.far ?_ NB0_101.out _|refine kx.far ?_ NB0_102.out _)|exact HI0.out)) (by solve_by_elim only[HO119.out,Kd.zv,Kd.zk,Kd.zw]) (by decide)) hk (fun _ h=>h.2)) (fun _ h=>h.1));replace HK:=U.mk (zq.trans (by solve_by_elim (maxDepth:=20) only[HK.out,zq.set_,zx,jz,jq,jj,GW101.out,jj,GW102.out]) hk (.inl rfl));replace HB:=U.mk (hb);replace HI0:=U.mk (hi);(try clear hb hk hi);have hnb41:=NB101_102.out;have hnc41:=NB102_101.out;have hnb42:=NB101_0.out;have hnc42:=NB0_101.out;have hcz43_0:w40.cell? ⟨gb101,0,none⟩ = some (.int .i64 a1_0):=(qj BK101.out 0).trans rfl;have hcz43_1:w40.cell? ⟨gb101,1,none⟩ = some (.int .i64 a1_1):=(qj BK101.out 1).trans rfl;have hcz43_2:w40.cell? ⟨gb101,2,none⟩ = some (.string a1_2):=(qj BK101.out 2).trans rfl;have hcz43_3:w40.cell? ⟨gb101,3,none⟩ = some (.string a1_3):=(qj BK101.out 3).trans rfl;have hfz43_0:=qz BK101.out 0;have hfz43_1:=qz BK101.out 1;have hfz43_2:=qz BK101.out 2;have hfz43_3:=qz BK101.out 3;have hnb44:=NB102_0.out;have hnc44:=NB0_102.out;have hcz45_0:w40.cell? ⟨gb102,0,none⟩ = some (.int .i64 0):=(qj BK102.out 0).trans rfl;have hcz45_1:w40.cell? ⟨gb102,1,none⟩ = some (.int .i64 0):=(qj BK102.out 1).trans rfl;have hcz45_2:w40.cell? ⟨gb102,2,none⟩ = some (.string (⟨#[]⟩ : ByteArray)):=(qj BK102.out 2).trans rfl;have hcz45_3:w40.cell? ⟨gb102,3,none⟩ = some (.string (⟨#[]⟩ : ByteArray)):=(qj BK102.out 3).trans rfl;have hfz45_0:=qz BK102.out 0;have hfz45_1:=qz BK102.out 1;have hfz45_2:=qz BK102.out 2;have hfz45_3:=qz BK102.out 3))
    refine bodyPost_ret (results_cell_row rfl _ _ gb102 34 #[.int .i64 a1_0,.int .i64 a1_1,.string t120,.string a1_3] (0,0) _ rfl (by(with_reducible repeat(first|refine qw ?_ _|refine qx ?_|refine qv ?_ _));refine blk_put (cs:=#[.int .i64 a1_0,.int .i64 a1_1,.string t120,.string (⟨#[]⟩ : ByteArray)]) ?_ 3 _ rfl;(with_reducible repeat(first|refine qw ?_ _|refine qx ?_|refine qv ?_ _));refine blk_put (cs:=#[.int .i64 a1_0,.int .i64 a1_1,.string (⟨#[]⟩ : ByteArray),.string (⟨#[]⟩ : ByteArray)]) ?_ 2 _ rfl;(with_reducible repeat(first|refine qw ?_ _|refine qx ?_|refine qv ?_ _));refine blk_put (cs:=#[.int .i64 a1_0,.int .i64 0,.string (⟨#[]⟩ : ByteArray),.string (⟨#[]⟩ : ByteArray)]) ?_ 1 _ rfl;(with_reducible repeat(first|refine qw ?_ _|refine qx ?_|refine qv ?_ _));refine blk_put (cs:=#[.int .i64 0,.int .i64 0,.string (⟨#[]⟩ : ByteArray),.string (⟨#[]⟩ : ByteArray)]) ?_ 0 _ rfl;(with_reducible repeat(first|refine qw ?_ _|refine qx ?_|refine qv ?_ _));refine blk_far ?_ NB102_101.out _;(with_reducible repeat(first|refine qw ?_ _|refine qx ?_|refine qv ?_ _));exact BK102.out) Try.underlying34 rfl (by kernel_rfl)) rfl ?_
    exact⟨by first|rfl|(simp[*,jv,jk] <;> rfl),by repeat(first|(with_reducible first|exact HI0.out|apply kx.alloc|apply kx.drewN|apply kx.drew|apply kx.set_1|apply kx.set_2|refine kx.far ?_ NB0_101.out _|refine kx.far ?_ NB0_102.out _)|exact HI0.out),by repeat(first|(with_reducible first|exact HB.out|apply G|apply J|apply qq|refine qk ?_ (kx.ge HI0.out)|refine qk ?_ GE101.out|refine qk ?_ GE102.out)|exact HB.out),by repeat(first|(with_reducible first|exact HK.out|apply zq.set_|apply zx|apply jz|apply jq|refine jj ?_ GW101.out _|refine jj ?_ GW102.out _)|exact HK.out)⟩
   ·rw[if_neg c32] at H
    have c32b0:(t103 == 2)=false:=beq_eq_false_iff_ne.mpr c32
    have c32b1:(t103 != 2)=true:=bne_iff_ne.mpr c32
    by_cases c46:t103=3
    ·rw[if_pos c46] at H
     have c46b0:(t103 == 3)=true:=beq_iff_eq.mpr c46
     have c46b1:(t103 != 3)=false:=bne_eq_false_iff_eq.mpr c46
     clear c46
     obtain⟨y123,hy123⟩ : ∃ y_:List ByteArray,y_=(([(⟨#[]⟩ : ByteArray),(⟨#[84]⟩ : ByteArray),(⟨#[49,97]⟩ : ByteArray)]:List ByteArray)):=⟨_,rfl⟩
     replace H:((qjv.f s0_0 t104 t105 y123).bind fun bt126=>(some (a1_0,a1_1,a1_2,bt126.1,bt126.2.1,bt126.2.2)))=some (r1,r2,r3,r4,r5,r6):=by first|(rw[hy123];with_reducible exact H)|(have H2_:=(Option.bind_some _ _).symm.trans H;rw[hy123];with_reducible exact H2_)|(have H2_:=(Option.bind_some _ _).symm.trans H;with_reducible exact H2_)|with_reducible exact H|(rw[hy123];exact H)|exact H
     have Ny123:=U.mk hy123
     clear hy123
     replace H:=jq8.mp H
     obtain⟨⟨t126,t127,t128⟩,A470,H⟩:=H
     try dsimp only at H
     have A47:=U.mk A470
     clear A470
     simp only[Option.some.injEq,Prod.mk.injEq] at H
     obtain⟨rfl,rfl,rfl,rfl,rfl,rfl⟩:=H
     go_enter Try.func87,Try.ntmps87
     go_wp2_with (first|((with_reducible refine gate_dst (N:=3) rfl ?_);refine box_event ?hg (N:=3) ?hd (cs:=#[.int .i64 a1_0,.int .i64 a1_1,.string a1_2,.string a1_3]) (t:=34) ?hr ?_;(case hd=>rfl);(case hg=>rfl);(case hr=>first|(go_simp;done)|(go_simp;rfl));intro gb101 hg w48 hbox hb;replace HB:=U.mk (zz (by solve_by_elim (maxDepth:=20) only[HB.out,G,J,qq,qk,(kx.ge HI0.out)]) hb);have BK101:=U.mk (hbox);have GW101:=U.mk ((by rw[hg];exact(keep_size (w:=w) (g:=g) (row:=none) (by solve_by_elim (maxDepth:=20) only[HK.out,zq.set_,zx,jz,jq])):w.heap.size≤gb101));have GE101:=U.mk ((Nat.le_trans HW0.out (by rw[hg];exact(keep_size (w:=w) (g:=g) (row:=none) (by solve_by_elim (maxDepth:=20) only[HK.out,zq.set_,zx,jz,jq])):w.heap.size≤gb101):w0.heap.size≤gb101));replace HK:=U.mk (zq.trans (by solve_by_elim (maxDepth:=20) only[HK.out,zq.set_,zx,jz,jq]) (zq.of_below hb g none) (.inl rfl));have NB0_101:=U.mk ((by rw[hg];exact Nat.ne_of_lt (kx.lt (show kx w0 _ g s0_0 s0_1 s0_2 from by repeat(first|(with_reducible first|exact HI0.out|apply kx.alloc|apply kx.drewN|apply kx.drew|apply kx.set_1|apply kx.set_2)|exact HI0.out))):g≠gb101));have NB101_0:=U.mk ((by rw[hg];exact Nat.ne_of_gt (kx.lt (show kx w0 _ g s0_0 s0_1 s0_2 from by repeat(first|(with_reducible first|exact HI0.out|apply kx.alloc|apply kx.drewN|apply kx.drew|apply kx.set_1|apply kx.set_2)|exact HI0.out))):gb101≠g));replace HI0:=U.mk (kx.below (by solve_by_elim (maxDepth:=20) only[HI0.out,kx.alloc,kx.drewN,kx.drew,kx.set_1,kx.set_2]) hb);clear hb hbox hg)|((with_reducible refine gate_dst (N:=4) rfl ?_);refine box_event ?hg (N:=4) ?hd (cs:=#[.int .i64 0,.int .i64 0,.string (⟨#[]⟩ : ByteArray),.string (⟨#[]⟩ : ByteArray)]) (t:=34) ?hr ?_;(case hd=>rfl);(case hg=>rfl);(case hr=>first|(go_simp;done)|(go_simp;rfl));intro gb102 hg w49 hbox hb;replace HB:=U.mk (zz (by solve_by_elim (maxDepth:=20) only[HB.out,G,J,qq,qk,(kx.ge HI0.out),qk,GE101.out]) hb);have BK102:=U.mk (hbox);have GW102:=U.mk ((by rw[hg];exact(keep_size (w:=w) (g:=g) (row:=none) (by solve_by_elim (maxDepth:=20) only[HK.out,zq.set_,zx,jz,jq,jj,GW101.out])):w.heap.size≤gb102));have GE102:=U.mk ((Nat.le_trans HW0.out (by rw[hg];exact(keep_size (w:=w) (g:=g) (row:=none) (by solve_by_elim (maxDepth:=20) only[HK.out,zq.set_,zx,jz,jq,jj,GW101.out])):w.heap.size≤gb102):w0.heap.size≤gb102));replace HK:=U.mk (zq.trans (by solve_by_elim (maxDepth:=20) only[HK.out,zq.set_,zx,jz,jq,jj,GW101.out]) (zq.of_below hb g none) (.inl rfl));have NB101_102:=U.mk ((by rw[hg];exact Nat.ne_of_lt (blk_lt (g:=gb101) (o:=.cells #[.int .i64 a1_0,.int .i64 a1_1,.string a1_2,.string a1_3] 34 (0,0)) (by solve_by_elim only[BK101.out,qw,qx,qv])):gb101≠gb102));have NB102_101:=U.mk ((by rw[hg];exact Nat.ne_of_gt (blk_lt (g:=gb101) (o:=.cells #[.int .i64 a1_0,.int .i64 a1_1,.string a1_2,.string a1_3] 34 (0,0)) (by solve_by_elim only[BK101.out,qw,qx,qv])):gb102≠gb101));replace BK101:=U.mk (kv (g:=gb101) (o:=.cells #[.int .i64 a1_0,.int .i64 a1_1,.string a1_2,.string a1_3] 34 (0,0)) (by solve_by_elim only[BK101.out,qw,qx,qv]) hb);have NB0_102:=U.mk ((by rw[hg];exact Nat.ne_of_lt (kx.lt (show kx w0 _ g s0_0 s0_1 s0_2 from by repeat(first|(with_reducible first|exact HI0.out|apply kx.alloc|apply kx.drewN|apply kx.drew|apply kx.set_1|apply kx.set_2|refine kx.far ?_ NB0_101.out _)|exact HI0.out))):g≠gb102));have NB102_0:=U.mk ((by rw[hg];exact Nat.ne_of_gt (kx.lt (show kx w0 _ g s0_0 s0_1 s0_2 from by repeat(first|(with_reducible first|exact HI0.out|apply kx.alloc|apply kx.drewN|apply kx.drew|apply kx.set_1|apply kx.set_2|refine kx.far ?_ NB0_101.out _)|exact HI0.out))):gb102≠g));replace HI0:=U.mk (kx.below (by solve_by_elim (maxDepth:=20) only[HI0.out,kx.alloc,kx.drewN,kx.drew,kx.set_1,kx.set_2,kx.far,NB0_101.out]) hb);clear hb hbox hg)|((with_reducible refine jw (f:=54) rfl ?_);refine goesL_ (some 8) rfl rfl Try.func54 (by kernel_rfl) rfl #[.pointer (some ⟨g,0,none⟩),.int .i64 16] rfl (by(try simp only[jq0,jq1,jq2]);first|done|rfl|(simp only[jq3,jq4];rfl)) ?_;(with_reducible refine(qjx.calls g s0_0 s0_1 s0_2 16 t103 t104 t105 w0 _ ?side1 ?side2 A3.out).mono ?_);(case side1=>repeat(first|(with_reducible first|exact HI0.out|apply kx.alloc|apply kx.drewN|apply kx.drew|apply kx.set_1|apply kx.set_2|refine kx.far ?_ NB0_101.out _|refine kx.far ?_ NB0_102.out _)|exact HI0.out));(case side2=>repeat(first|(with_reducible first|exact HB.out|apply G|apply J|apply qq|refine qk ?_ (kx.ge HI0.out)|refine qk ?_ GE101.out|refine qk ?_ GE102.out)|exact HB.out));rintro e w50 ⟨rfl,hi,hb,hk⟩;refine⟨_,rfl,?_⟩;replace BK101:=U.mk (zq.blk hk (g':=gb101) (o:=.cells #[.int .i64 a1_0,.int .i64 a1_1,.string a1_2,.string a1_3] 34 (0,0)) (by solve_by_elim only[BK101.out,qw,qx,qv]) NB101_0.out (by simp));replace BK102:=U.mk (zq.blk hk (g':=gb102) (o:=.cells #[.int .i64 0,.int .i64 0,.string (⟨#[]⟩ : ByteArray),.string (⟨#[]⟩ : ByteArray)] 34 (0,0)) (by solve_by_elim only[BK102.out,qw,qx,qv]) NB102_0.out (by simp));replace HK:=U.mk (zq.trans (by solve_by_elim (maxDepth:=20) only[HK.out,zq.set_,zx,jz,jq,jj,GW101.out,jj,GW102.out]) hk (.inl rfl));replace HB:=U.mk (hb);replace HI0:=U.mk (hi);(try clear hb hk hi))|((with_reducible refine gate_dst (N:=34) rfl ?_);refine Kd.R_lit Kd.string _ 9 ?hg (N:=34) ?hd (xs:=([(⟨#[]⟩ : ByteArray),(⟨#[84]⟩ : ByteArray),(⟨#[49,97]⟩ : ByteArray)]:List ByteArray)) (inner:=[.string (⟨#[]⟩ : ByteArray),.string (⟨#[84]⟩ : ByteArray),.string (⟨#[49,97]⟩ : ByteArray)]) (ok:=fun _=>True) (okp:=fun _=>True) ?hr ?hp (fun _ hk=>hk) trivial (Below.refl _ _) (Nat.le_refl _) (by simp) ?_;(case hd=>rfl);(case hg=>rfl);(case hr=>first|(go_simp;done)|(go_simp;rfl));(case hp=>exact(Reps.one (show Kd.M Kd.string _ _ _ (⟨#[]⟩ : ByteArray) [.string (⟨#[]⟩ : ByteArray)] from rfl) (Reps.one (show Kd.M Kd.string _ _ _ (⟨#[84]⟩ : ByteArray) [.string (⟨#[84]⟩ : ByteArray)] from rfl) (Reps.one (show Kd.M Kd.string _ _ _ (⟨#[49,97]⟩ : ByteArray) [.string (⟨#[49,97]⟩ : ByteArray)] from rfl) (Reps.none _ _)))));intro v124 w51 ho52 hb hg_ hnew_;clear hg_ hnew_;(first|rw[← Ny123.out] at ho52|(simp only[Int.reduceToNat] at ho52;rw[← Ny123.out] at ho52));have HO125:=U.mk (Kd.R_lower ho52 (keep_size (w:=w) (g:=g) (row:=none) (by solve_by_elim (maxDepth:=20) only[HK.out,zq.set_,zx,jz,jq,jj,GW101.out,jj,GW102.out])));replace BK101:=U.mk (kv (g:=gb101) (o:=.cells #[.int .i64 a1_0,.int .i64 a1_1,.string a1_2,.string a1_3] 34 (0,0)) (by solve_by_elim only[BK101.out,qw,qx,qv]) hb);replace BK102:=U.mk (kv (g:=gb102) (o:=.cells #[.int .i64 0,.int .i64 0,.string (⟨#[]⟩ : ByteArray),.string (⟨#[]⟩ : ByteArray)] 34 (0,0)) (by solve_by_elim only[BK102.out,qw,qx,qv]) hb);replace HK:=U.mk (zq.trans (by solve_by_elim (maxDepth:=20) only[HK.out,zq.set_,zx,jz,jq,jj,GW101.out,jj,GW102.out]) (zq.of_below hb g none) (.inl rfl));replace HB:=U.mk (zz (by solve_by_elim (maxDepth:=20) only[HB.out,G,J,qq,qk,(kx.ge HI0.out),qk,GE101.out,qk,GE102.out]) hb);replace HI0:=U.mk (kx.below (by solve_by_elim (maxDepth:=20) only[HI0.out,kx.alloc,kx.drewN,kx.drew,kx.set_1,kx.set_2,kx.far,NB0_101.out,kx.far,NB0_102.out]) hb);clear hb ho52;obtain⟨Ao53,co53,eo53⟩:=Kd.R_slice HO125.out;subst eo53)|((with_reducible refine jw (f:=55) rfl ?_);refine goesL_ (some 35) rfl rfl Try.func55 (by kernel_rfl) rfl #[.pointer (some ⟨g,0,none⟩),.slice Ao53 y123.length co53] rfl (by(try simp only[jq0,jq1,jq2]);first|done|rfl|(simp only[jq3,jq4];rfl)) ?_;(with_reducible refine(qjv.calls g s0_0 t104 t105 _ _ y123 t126 t127 t128 w0 _ ?side1 ?side2 ?side3 ?side4 ?side5 A47.out).mono ?_);(case side1=>repeat(first|(with_reducible first|exact HI0.out|apply kx.alloc|apply kx.drewN|apply kx.drew|apply kx.set_1|apply kx.set_2|refine kx.far ?_ NB0_101.out _|refine kx.far ?_ NB0_102.out _)|exact HI0.out));(case side2=>repeat(first|(with_reducible first|exact HB.out|apply G|apply J|apply qq|refine qk ?_ (kx.ge HI0.out)|refine qk ?_ GE101.out|refine qk ?_ GE102.out)|exact HB.out));(case side3=>solve_by_elim only[(Kd.R_reads' HO125.out).2.2,Kd.C_alloc,Kd.C_drewN,Kd.C_drew]);(case side4=>exact(Kd.R_reads' HO125.out).2.1);(case side5=>exact far_slice (kx.own_ne HI0.out HO125.out (by decide)));rintro e w54 ⟨rfl,hi,hb,hk⟩;refine⟨_,rfl,?_⟩;replace BK101:=U.mk (zq.blk hk (g':=gb101) (o:=.cells #[.int .i64 a1_0,.int .i64 a1_1,.string a1_2,.string a1_3] 34 (0,0)) (by solve_by_elim only[BK101.out,qw,qx,qv]) NB101_0.out (by simp));replace BK102:=U.mk (zq.blk hk (g':=gb102) (o:=.cells #[.int .i64 0,.int .i64 0,.string (⟨#[]⟩ : ByteArray),.string (⟨#[]⟩ : ByteArray)] 34 (0,0)) (by solve_by_elim only[BK102.out,qw,qx,qv]) NB102_0.out (by simp));replace HO125:=U.mk (Kd.R_mono (Kd.R_keep (kx.apart (show kx w0 _ g s0_0 t104 t105 from by repeat(first|(with_reducible first|exact HI0.out|apply kx.alloc|apply kx.drewN|apply kx.drew|apply kx.set_1|apply kx.set_2|refine kx.far ?_ NB0_101.out _|refine kx.far ?_ NB0_102.out _)|exact HI0.out)) (by solve_by_elim only[HO125.out,Kd.zv,Kd.zk,Kd.zw]) (by decide)) hk (fun _ h=>h.2)) (fun _ h=>h.1));replace HK:=U.mk (zq.trans (by solve_by_elim (maxDepth:=20) only[HK.out,zq.set_,zx,jz,jq,jj,GW101.out,jj,GW102.out]) hk (.inl rfl));replace HB:=U.mk (hb);replace HI0:=U.mk (hi);(try clear hb hk hi);have hnb55:=NB101_102.out;have hnc55:=NB102_101.out;have hnb56:=NB101_0.out;have hnc56:=NB0_101.out;have hcz57_0:w54.cell? ⟨gb101,0,none⟩ = some (.int .i64 a1_0):=(qj BK101.out 0).trans rfl;have hcz57_1:w54.cell? ⟨gb101,1,none⟩ = some (.int .i64 a1_1):=(qj BK101.out 1).trans rfl;have hcz57_2:w54.cell? ⟨gb101,2,none⟩ = some (.string a1_2):=(qj BK101.out 2).trans rfl;have hcz57_3:w54.cell? ⟨gb101,3,none⟩ = some (.string a1_3):=(qj BK101.out 3).trans rfl;have hfz57_0:=qz BK101.out 0;have hfz57_1:=qz BK101.out 1;have hfz57_2:=qz BK101.out 2;have hfz57_3:=qz BK101.out 3;have hnb58:=NB102_0.out;have hnc58:=NB0_102.out;have hcz59_0:w54.cell? ⟨gb102,0,none⟩ = some (.int .i64 0):=(qj BK102.out 0).trans rfl;have hcz59_1:w54.cell? ⟨gb102,1,none⟩ = some (.int .i64 0):=(qj BK102.out 1).trans rfl;have hcz59_2:w54.cell? ⟨gb102,2,none⟩ = some (.string (⟨#[]⟩ : ByteArray)):=(qj BK102.out 2).trans rfl;have hcz59_3:w54.cell? ⟨gb102,3,none⟩ = some (.string (⟨#[]⟩ : ByteArray)):=(qj BK102.out 3).trans rfl;have hfz59_0:=qz BK102.out 0;have hfz59_1:=qz BK102.out 1;have hfz59_2:=qz BK102.out 2;have hfz59_3:=qz BK102.out 3))
     refine bodyPost_ret (results_cell_row rfl _ _ gb102 34 #[.int .i64 a1_0,.int .i64 a1_1,.string a1_2,.string t126] (0,0) _ rfl (by(with_reducible repeat(first|refine qw ?_ _|refine qx ?_|refine qv ?_ _));refine blk_put (cs:=#[.int .i64 a1_0,.int .i64 a1_1,.string a1_2,.string (⟨#[]⟩ : ByteArray)]) ?_ 3 _ rfl;(with_reducible repeat(first|refine qw ?_ _|refine qx ?_|refine qv ?_ _));refine blk_put (cs:=#[.int .i64 a1_0,.int .i64 a1_1,.string (⟨#[]⟩ : ByteArray),.string (⟨#[]⟩ : ByteArray)]) ?_ 2 _ rfl;(with_reducible repeat(first|refine qw ?_ _|refine qx ?_|refine qv ?_ _));refine blk_put (cs:=#[.int .i64 a1_0,.int .i64 0,.string (⟨#[]⟩ : ByteArray),.string (⟨#[]⟩ : ByteArray)]) ?_ 1 _ rfl;(with_reducible repeat(first|refine qw ?_ _|refine qx ?_|refine qv ?_ _));refine blk_put (cs:=#[.int .i64 0,.int .i64 0,.string (⟨#[]⟩ : ByteArray),.string (⟨#[]⟩ : ByteArray)]) ?_ 0 _ rfl;(with_reducible repeat(first|refine qw ?_ _|refine qx ?_|refine qv ?_ _));refine blk_far ?_ NB102_101.out _;(with_reducible repeat(first|refine qw ?_ _|refine qx ?_|refine qv ?_ _));exact BK102.out) Try.underlying34 rfl (by kernel_rfl)) rfl ?_
     exact⟨by first|rfl|(simp[*,jv,jk] <;> rfl),by repeat(first|(with_reducible first|exact HI0.out|apply kx.alloc|apply kx.drewN|apply kx.drew|apply kx.set_1|apply kx.set_2|refine kx.far ?_ NB0_101.out _|refine kx.far ?_ NB0_102.out _)|exact HI0.out),by repeat(first|(with_reducible first|exact HB.out|apply G|apply J|apply qq|refine qk ?_ (kx.ge HI0.out)|refine qk ?_ GE101.out|refine qk ?_ GE102.out)|exact HB.out),by repeat(first|(with_reducible first|exact HK.out|apply zq.set_|apply zx|apply jz|apply jq|refine jj ?_ GW101.out _|refine jj ?_ GW102.out _)|exact HK.out)⟩
    ·rw[if_neg c46] at H
     have c46b0:(t103 == 3)=false:=beq_eq_false_iff_ne.mpr c46
     have c46b1:(t103 != 3)=true:=bne_iff_ne.mpr c46
     by_cases c60:t103=4
     ·rw[if_pos c60] at H
      have c60b0:(t103 == 4)=true:=beq_iff_eq.mpr c60
      have c60b1:(t103 != 4)=false:=bne_eq_false_iff_eq.mpr c60
      clear c60
      replace H:=jq8.mp H
      obtain⟨⟨t129,t130,t131⟩,A610,H⟩:=H
      try dsimp only at H
      have A61:=U.mk A610
      clear A610
      obtain⟨ji62,hji62⟩ : ∃ j_:Int,(wrap64 (199 + t129))=j_:=⟨_,rfl⟩
      replace H:(if 0≤(ji62) then(if (ji62:Int).toNat≤281474976710656 then((some (List.replicate (ji62:Int).toNat 0:List Int)).bind fun y132=>(qjk.l0 k y132 (y132.length:Int) 0 s0_0 t130 t131 a1_0 a1_1 a1_2 a1_3)) else(none)) else(none))=some (r1,r2,r3,r4,r5,r6):=by first|(rw[hji62] at H;exact H)|(simp only[hji62] at H ⊢;exact H)
      (try rw[hji62] at A3)
      (try rw[hji62] at A61)
      have hji62w:(IntKind.i64.wrap (199 + t129))=ji62:=(i64_w _).trans hji62
      by_cases c63 : 0≤(ji62)
      ·rw[if_pos c63] at H
       have c63b0:=eq_true c63
       have c63b1:decide (0≤(ji62))=true:=decide_eq_true c63
       clear c63
       by_cases c64:(ji62:Int).toNat≤281474976710656
       ·rw[if_pos c64] at H
        have c64b0:=eq_true c64
        have c64b1:decide ((ji62:Int).toNat≤281474976710656)=true:=decide_eq_true c64
        clear c64
        obtain⟨y132,hy132⟩ : ∃ y_:List Int,y_=(List.replicate (ji62:Int).toNat 0):=⟨_,rfl⟩
        replace H:(qjk.l0 k y132 (y132.length:Int) 0 s0_0 t130 t131 a1_0 a1_1 a1_2 a1_3)=some (r1,r2,r3,r4,r5,r6):=by first|(rw[hy132];with_reducible exact H)|(have H2_:=(Option.bind_some _ _).symm.trans H;rw[hy132];with_reducible exact H2_)|(have H2_:=(Option.bind_some _ _).symm.trans H;with_reducible exact H2_)|with_reducible exact H|(rw[hy132];exact H)|exact H
        have Ny132:=U.mk hy132
        clear hy132
        have H':=U.mk H
        clear H
        go_enter Try.func87,Try.ntmps87
        go_wp2_with (first|((with_reducible refine gate_dst (N:=3) rfl ?_);refine box_event ?hg (N:=3) ?hd (cs:=#[.int .i64 a1_0,.int .i64 a1_1,.string a1_2,.string a1_3]) (t:=34) ?hr ?_;(case hd=>rfl);(case hg=>rfl);(case hr=>first|(go_simp;done)|(go_simp;rfl));intro gb101 hg w65 hbox hb;replace HB:=U.mk (zz (by solve_by_elim (maxDepth:=20) only[HB.out,G,J,qq,qk,(kx.ge HI0.out)]) hb);have BK101:=U.mk (hbox);have GW101:=U.mk ((by rw[hg];exact(keep_size (w:=w) (g:=g) (row:=none) (by solve_by_elim (maxDepth:=20) only[HK.out,zq.set_,zx,jz,jq])):w.heap.size≤gb101));have GE101:=U.mk ((Nat.le_trans HW0.out (by rw[hg];exact(keep_size (w:=w) (g:=g) (row:=none) (by solve_by_elim (maxDepth:=20) only[HK.out,zq.set_,zx,jz,jq])):w.heap.size≤gb101):w0.heap.size≤gb101));replace HK:=U.mk (zq.trans (by solve_by_elim (maxDepth:=20) only[HK.out,zq.set_,zx,jz,jq]) (zq.of_below hb g none) (.inl rfl));have NB0_101:=U.mk ((by rw[hg];exact Nat.ne_of_lt (kx.lt (show kx w0 _ g s0_0 s0_1 s0_2 from by repeat(first|(with_reducible first|exact HI0.out|apply kx.alloc|apply kx.drewN|apply kx.drew|apply kx.set_1|apply kx.set_2)|exact HI0.out))):g≠gb101));have NB101_0:=U.mk ((by rw[hg];exact Nat.ne_of_gt (kx.lt (show kx w0 _ g s0_0 s0_1 s0_2 from by repeat(first|(with_reducible first|exact HI0.out|apply kx.alloc|apply kx.drewN|apply kx.drew|apply kx.set_1|apply kx.set_2)|exact HI0.out))):gb101≠g));replace HI0:=U.mk (kx.below (by solve_by_elim (maxDepth:=20) only[HI0.out,kx.alloc,kx.drewN,kx.drew,kx.set_1,kx.set_2]) hb);clear hb hbox hg)|((with_reducible refine gate_dst (N:=4) rfl ?_);refine box_event ?hg (N:=4) ?hd (cs:=#[.int .i64 0,.int .i64 0,.string (⟨#[]⟩ : ByteArray),.string (⟨#[]⟩ : ByteArray)]) (t:=34) ?hr ?_;(case hd=>rfl);(case hg=>rfl);(case hr=>first|(go_simp;done)|(go_simp;rfl));intro gb102 hg w66 hbox hb;replace HB:=U.mk (zz (by solve_by_elim (maxDepth:=20) only[HB.out,G,J,qq,qk,(kx.ge HI0.out),qk,GE101.out]) hb);have BK102:=U.mk (hbox);have GW102:=U.mk ((by rw[hg];exact(keep_size (w:=w) (g:=g) (row:=none) (by solve_by_elim (maxDepth:=20) only[HK.out,zq.set_,zx,jz,jq,jj,GW101.out])):w.heap.size≤gb102));have GE102:=U.mk ((Nat.le_trans HW0.out (by rw[hg];exact(keep_size (w:=w) (g:=g) (row:=none) (by solve_by_elim (maxDepth:=20) only[HK.out,zq.set_,zx,jz,jq,jj,GW101.out])):w.heap.size≤gb102):w0.heap.size≤gb102));replace HK:=U.mk (zq.trans (by solve_by_elim (maxDepth:=20) only[HK.out,zq.set_,zx,jz,jq,jj,GW101.out]) (zq.of_below hb g none) (.inl rfl));have NB101_102:=U.mk ((by rw[hg];exact Nat.ne_of_lt (blk_lt (g:=gb101) (o:=.cells #[.int .i64 a1_0,.int .i64 a1_1,.string a1_2,.string a1_3] 34 (0,0)) (by solve_by_elim only[BK101.out,qw,qx,qv])):gb101≠gb102));have NB102_101:=U.mk ((by rw[hg];exact Nat.ne_of_gt (blk_lt (g:=gb101) (o:=.cells #[.int .i64 a1_0,.int .i64 a1_1,.string a1_2,.string a1_3] 34 (0,0)) (by solve_by_elim only[BK101.out,qw,qx,qv])):gb102≠gb101));replace BK101:=U.mk (kv (g:=gb101) (o:=.cells #[.int .i64 a1_0,.int .i64 a1_1,.string a1_2,.string a1_3] 34 (0,0)) (by solve_by_elim only[BK101.out,qw,qx,qv]) hb);have NB0_102:=U.mk ((by rw[hg];exact Nat.ne_of_lt (kx.lt (show kx w0 _ g s0_0 s0_1 s0_2 from by repeat(first|(with_reducible first|exact HI0.out|apply kx.alloc|apply kx.drewN|apply kx.drew|apply kx.set_1|apply kx.set_2|refine kx.far ?_ NB0_101.out _)|exact HI0.out))):g≠gb102));have NB102_0:=U.mk ((by rw[hg];exact Nat.ne_of_gt (kx.lt (show kx w0 _ g s0_0 s0_1 s0_2 from by repeat(first|(with_reducible first|exact HI0.out|apply kx.alloc|apply kx.drewN|apply kx.drew|apply kx.set_1|apply kx.set_2|refine kx.far ?_ NB0_101.out _)|exact HI0.out))):gb102≠g));replace HI0:=U.mk (kx.below (by solve_by_elim (maxDepth:=20) only[HI0.out,kx.alloc,kx.drewN,kx.drew,kx.set_1,kx.set_2,kx.far,NB0_101.out]) hb);clear hb hbox hg)|((with_reducible refine jw (f:=54) rfl ?_);refine goesL_ (some 8) rfl rfl Try.func54 (by kernel_rfl) rfl #[.pointer (some ⟨g,0,none⟩),.int .i64 16] rfl (by(try simp only[jq0,jq1,jq2]);first|done|rfl|(simp only[jq3,jq4];rfl)) ?_;(with_reducible refine(qjx.calls g s0_0 s0_1 s0_2 16 t103 t104 t105 w0 _ ?side1 ?side2 A3.out).mono ?_);(case side1=>repeat(first|(with_reducible first|exact HI0.out|apply kx.alloc|apply kx.drewN|apply kx.drew|apply kx.set_1|apply kx.set_2|refine kx.far ?_ NB0_101.out _|refine kx.far ?_ NB0_102.out _)|exact HI0.out));(case side2=>repeat(first|(with_reducible first|exact HB.out|apply G|apply J|apply qq|refine qk ?_ (kx.ge HI0.out)|refine qk ?_ GE101.out|refine qk ?_ GE102.out)|exact HB.out));rintro e w67 ⟨rfl,hi,hb,hk⟩;refine⟨_,rfl,?_⟩;replace BK101:=U.mk (zq.blk hk (g':=gb101) (o:=.cells #[.int .i64 a1_0,.int .i64 a1_1,.string a1_2,.string a1_3] 34 (0,0)) (by solve_by_elim only[BK101.out,qw,qx,qv]) NB101_0.out (by simp));replace BK102:=U.mk (zq.blk hk (g':=gb102) (o:=.cells #[.int .i64 0,.int .i64 0,.string (⟨#[]⟩ : ByteArray),.string (⟨#[]⟩ : ByteArray)] 34 (0,0)) (by solve_by_elim only[BK102.out,qw,qx,qv]) NB102_0.out (by simp));replace HK:=U.mk (zq.trans (by solve_by_elim (maxDepth:=20) only[HK.out,zq.set_,zx,jz,jq,jj,GW101.out,jj,GW102.out]) hk (.inl rfl));replace HB:=U.mk (hb);replace HI0:=U.mk (hi);(try clear hb hk hi))|((with_reducible refine jw (f:=54) rfl ?_);refine goesL_ (some 40) rfl rfl Try.func54 (by kernel_rfl) rfl #[.pointer (some ⟨g,0,none⟩),.int .i64 3] rfl (by(try simp only[jq0,jq1,jq2]);first|done|rfl|(simp only[jq3,jq4];rfl)) ?_;(with_reducible refine(qjx.calls g s0_0 t104 t105 3 t129 t130 t131 w0 _ ?side1 ?side2 A61.out).mono ?_);(case side1=>repeat(first|(with_reducible first|exact HI0.out|apply kx.alloc|apply kx.drewN|apply kx.drew|apply kx.set_1|apply kx.set_2|refine kx.far ?_ NB0_101.out _|refine kx.far ?_ NB0_102.out _)|exact HI0.out));(case side2=>repeat(first|(with_reducible first|exact HB.out|apply G|apply J|apply qq|refine qk ?_ (kx.ge HI0.out)|refine qk ?_ GE101.out|refine qk ?_ GE102.out)|exact HB.out));rintro e w68 ⟨rfl,hi,hb,hk⟩;refine⟨_,rfl,?_⟩;replace BK101:=U.mk (zq.blk hk (g':=gb101) (o:=.cells #[.int .i64 a1_0,.int .i64 a1_1,.string a1_2,.string a1_3] 34 (0,0)) (by solve_by_elim only[BK101.out,qw,qx,qv]) NB101_0.out (by simp));replace BK102:=U.mk (zq.blk hk (g':=gb102) (o:=.cells #[.int .i64 0,.int .i64 0,.string (⟨#[]⟩ : ByteArray),.string (⟨#[]⟩ : ByteArray)] 34 (0,0)) (by solve_by_elim only[BK102.out,qw,qx,qv]) NB102_0.out (by simp));replace HK:=U.mk (zq.trans (by solve_by_elim (maxDepth:=20) only[HK.out,zq.set_,zx,jz,jq,jj,GW101.out,jj,GW102.out]) hk (.inl rfl));replace HB:=U.mk (hb);replace HI0:=U.mk (hi);(try clear hb hk hi))|((with_reducible refine gate_dst (N:=42) rfl ?_);refine Kd.R_make (Kd.int .u8) _ 5 rfl (N:=42) rfl 22 _ _ rfl ji62 rfl rfl Try.underlying22 (.int .u8 0) 1 info5 rfl (by decide) (by omega) 0 (ok:=fun _=>True) (okp:=fun _=>True) rfl (fun _ hk=>hk) trivial (of_decide_eq_true (by assumption)) (Nat.le_trans (Nat.mul_le_mul_right _ (of_decide_eq_true (by assumption):ji62.toNat≤281474976710656)) (by omega)) (Below.refl _ _) (Nat.le_refl _) ?_;intro v133 w69 ho70 hb hg_ hnew_;clear hg_ hnew_;(first|rw[← Ny132.out] at ho70|(simp only[Int.reduceToNat] at ho70;rw[← Ny132.out] at ho70));have HO134:=U.mk (Kd.R_lower ho70 (keep_size (w:=w) (g:=g) (row:=none) (by solve_by_elim (maxDepth:=20) only[HK.out,zq.set_,zx,jz,jq,jj,GW101.out,jj,GW102.out])));replace BK101:=U.mk (kv (g:=gb101) (o:=.cells #[.int .i64 a1_0,.int .i64 a1_1,.string a1_2,.string a1_3] 34 (0,0)) (by solve_by_elim only[BK101.out,qw,qx,qv]) hb);replace BK102:=U.mk (kv (g:=gb102) (o:=.cells #[.int .i64 0,.int .i64 0,.string (⟨#[]⟩ : ByteArray),.string (⟨#[]⟩ : ByteArray)] 34 (0,0)) (by solve_by_elim only[BK102.out,qw,qx,qv]) hb);replace HK:=U.mk (zq.trans (by solve_by_elim (maxDepth:=20) only[HK.out,zq.set_,zx,jz,jq,jj,GW101.out,jj,GW102.out]) (zq.of_below hb g none) (.inl rfl));replace HB:=U.mk (zz (by solve_by_elim (maxDepth:=20) only[HB.out,G,J,qq,qk,(kx.ge HI0.out),qk,GE101.out,qk,GE102.out]) hb);replace HI0:=U.mk (kx.below (by solve_by_elim (maxDepth:=20) only[HI0.out,kx.alloc,kx.drewN,kx.drew,kx.set_1,kx.set_2,kx.far,NB0_101.out,kx.far,NB0_102.out]) hb);clear hb ho70;obtain⟨Ao71,co71,eo71⟩:=Kd.R_slice HO134.out;subst eo71))
        go_loopg [45] k (fun kq v45 w'=>∃ (x5_1:List Int) (x45_1:Int),v45=.int .i64 x45_1∧U (qjk.l0 kq x5_1 (y132.length:Int) x45_1 s0_0 t130 t131 a1_0 a1_1 a1_2 a1_3=some (r1,r2,r3,r4,r5,r6))∧U (kq≤k)∧U (Kd.R (Kd.int .u8) 5 w' w.heap.size (fun _=>True) (.slice Ao71 y132.length co71) x5_1)∧U (w'.heap[gb101]? = some (.cells #[.int .i64 a1_0,.int .i64 a1_1,.string a1_2,.string a1_3] 34 (0,0)))∧U (w'.heap[gb102]? = some (.cells #[.int .i64 0,.int .i64 0,.string (⟨#[]⟩ : ByteArray),.string (⟨#[]⟩ : ByteArray)] 34 (0,0)))∧U (kx w0 w' g s0_0 t130 t131)∧U (zq w w' g none)∧U (Below w0.heap.size w0 w'))
        case atStart=>exact⟨(y132),(0),(by first|rfl|(simp;done)|(simp[*];done)),H',⟨Nat.le_refl _⟩,⟨by(with_reducible repeat(first|apply Kd.zv|apply Kd.zk|apply Kd.zw));exact HO134.out⟩,⟨by(with_reducible repeat(first|refine qw ?_ _|refine qx ?_|refine qv ?_ _));exact BK101.out⟩,⟨by(with_reducible repeat(first|refine qw ?_ _|refine qx ?_|refine qv ?_ _));exact BK102.out⟩,⟨by repeat(first|(with_reducible first|exact HI0.out|apply kx.alloc|apply kx.drewN|apply kx.drew|apply kx.set_1|apply kx.set_2|refine kx.far ?_ NB0_101.out _|refine kx.far ?_ NB0_102.out _)|exact HI0.out)⟩,⟨by repeat(first|(with_reducible first|exact HK.out|apply zq.set_|apply zx|apply jz|apply jq|refine jj ?_ GW101.out _|refine jj ?_ GW102.out _)|exact HK.out)⟩,⟨by repeat(first|(with_reducible first|exact HB.out|apply G|apply J|apply qq|refine qk ?_ (kx.ge HI0.out)|refine qk ?_ GE101.out|refine qk ?_ GE102.out)|exact HB.out)⟩⟩
        case round =>
         clear H'
         try clear c1
         try clear p1
         try clear q1
         try clear hx1
         try clear c2
         try clear p2
         try clear c3
         try clear c4
         try clear c4b0
         try clear c4b1
         try clear c5
         try clear c6
         try clear p6
         try clear c7
         try clear c8
         try clear c10
         try clear c11
         try clear p11
         try clear q11
         try clear hx11
         try clear c13
         try clear c15
         try clear c15b0
         try clear c15b1
         try clear c18
         try clear c18b0
         try clear c19
         try clear c19b0
         try clear c27
         try clear c28
         try clear c30
         try clear c32
         try clear c32b0
         try clear c32b1
         try clear c41
         try clear c42
         try clear c44
         try clear c46
         try clear c46b0
         try clear c46b1
         try clear c54
         try clear c55
         try clear c56
         try clear c58
         try clear c60
         try clear c60b0
         try clear c60b1
         try clear c63
         try clear c63b0
         try clear c63b1
         try clear c64
         try clear c64b0
         try clear c64b1
         try clear p64
         try clear hcz12_0
         try clear hcz12_1
         try clear hcz12_2
         try clear hcz12_3
         try clear hcz14_0
         try clear hcz14_1
         try clear hcz14_2
         try clear hcz14_3
         try clear hcz29_0
         try clear hcz29_1
         try clear hcz29_2
         try clear hcz29_3
         try clear hcz31_0
         try clear hcz31_1
         try clear hcz31_2
         try clear hcz31_3
         try clear hcz43_0
         try clear hcz43_1
         try clear hcz43_2
         try clear hcz43_3
         try clear hcz45_0
         try clear hcz45_1
         try clear hcz45_2
         try clear hcz45_3
         try clear hcz57_0
         try clear hcz57_1
         try clear hcz57_2
         try clear hcz57_3
         try clear hcz59_0
         try clear hcz59_1
         try clear hcz59_2
         try clear hcz59_3
         try clear hfz12_0
         try clear hfz12_1
         try clear hfz12_2
         try clear hfz12_3
         try clear hfz14_0
         try clear hfz14_1
         try clear hfz14_2
         try clear hfz14_3
         try clear hfz29_0
         try clear hfz29_1
         try clear hfz29_2
         try clear hfz29_3
         try clear hfz31_0
         try clear hfz31_1
         try clear hfz31_2
         try clear hfz31_3
         try clear hfz43_0
         try clear hfz43_1
         try clear hfz43_2
         try clear hfz43_3
         try clear hfz45_0
         try clear hfz45_1
         try clear hfz45_2
         try clear hfz45_3
         try clear hfz57_0
         try clear hfz57_1
         try clear hfz57_2
         try clear hfz57_3
         try clear hfz59_0
         try clear hfz59_1
         try clear hfz59_2
         try clear hfz59_3
         try clear hx116_0
         try clear p116
         try clear q116
         obtain⟨x5_1,x45_1,rfl,HA,HK1,HO_5,BK101,BK102,HI0,HK,HB⟩:=hrel
         have hl5_1:=(Kd.R_reads' HO_5.out).1
         rw[hl5_1] at HO_5
         (try simp only[hl5_1])
         (try simp only[hl5_1] at BK101)
         (try simp only[hl5_1] at BK102)
         cases gk with
         | zero=>exact absurd HA.out (by simp[qjk.l0])
         | succ k1 =>
          have H:=HA.out
          clear HA
          simp only[qjk.l0] at H
          by_cases c72:x45_1 < (y132.length:Int)
          ·rw[if_pos c72] at H
           have c72b0:decide (x45_1 < (y132.length:Int))=true:=decide_eq_true c72
           clear c72
           by_cases c73 : 0≤x45_1
           ·rw[if_pos c73] at H
            have c73b0:decide (0≤x45_1)=true:=decide_eq_true c73
            clear c73
            by_cases c74:x45_1 < (x5_1.length:Int)
            ·rw[if_pos c74] at H
             have c74b0:decide (x45_1 < (x5_1.length:Int))=true:=decide_eq_true c74
             clear c74
             obtain⟨y135,hy135⟩ : ∃ y_:List Int,y_=(x5_1.set (x45_1:Int).toNat 113):=⟨_,rfl⟩
             replace H:(qjk.l0 k1 y135 (y132.length:Int) (wrap64 (x45_1 + 1)) s0_0 t130 t131 a1_0 a1_1 a1_2 a1_3)=some (r1,r2,r3,r4,r5,r6):=by first|(rw[hy135];with_reducible exact H)|(have H2_:=(Option.bind_some _ _).symm.trans H;rw[hy135];with_reducible exact H2_)|(have H2_:=(Option.bind_some _ _).symm.trans H;with_reducible exact H2_)|with_reducible exact H|(rw[hy135];exact H)|exact H
             have Ny135:=U.mk hy135
             clear hy135
             have H':=U.mk H
             clear H
             have p75 : 0≤(x45_1:Int):=of_decide_eq_true (by assumption)
             have q75:(x45_1:Int) < ((x5_1.length:Int):Int):=of_decide_eq_true (by assumption)
             obtain⟨go75,co75,eo75,gb75,gl75,cl75,HG75⟩:=Kd.R_form HO_5.out (by omega)
             (first|cases eo75|(injection eo75 with ea_ en_ ec_;(first|subst ea_|(injection ea_ with ea_;subst ea_));subst ec_;clear en_))
             have GB75:=U.mk gb75
             have GG75:=U.mk HG75
             clear gb75 gl75 HG75
             obtain⟨hx75_0,hf75_0⟩:=Kd.R_celln 0 HO_5.out (x45_1:Int) p75 q75
             replace p75:=eq_true p75
             replace q75:=eq_true q75
             have HP76:=Kd.R_putg HO_5.out (x45_1:Int) 113
             go_wp2_with (first|((with_reducible refine jx (t:=5) (p:=50) rfl ?_);refine kz (t:=5) (p:=50) (v:=?vo_w77) (w1:=(wr.setCell ⟨go75,(x45_1:Int).toNat,none⟩ (.int .u8 113))) ?hg ?ho ?hn ?hr ?_;(case ho=>rfl);(case hg=>rfl);(case hn=>rfl);(case hr=>first|(go_simp;done)|(go_simp;rfl));intro w77 hw;have hg:wr.grownBy w77 (some go75):=(by rw[hw];exact HP76.2);have hp_:Kd.R (Kd.int .u8) 5 w77 w.heap.size (fun _=>True) (.slice (some ⟨go75,0,none⟩) x5_1.length co71) y135:=(by rw[hw,Ny135.out];exact HP76.1);clear HP76;replace BK101:=U.mk (blk_grown (g:=gb101) (o:=.cells #[.int .i64 a1_0,.int .i64 a1_1,.string a1_2,.string a1_3] 34 (0,0)) (by solve_by_elim only[BK101.out,qw,qx,qv]) hg (Kd.R_ne HO_5.out BK101.out (by decide)));replace BK102:=U.mk (blk_grown (g:=gb102) (o:=.cells #[.int .i64 0,.int .i64 0,.string (⟨#[]⟩ : ByteArray),.string (⟨#[]⟩ : ByteArray)] 34 (0,0)) (by solve_by_elim only[BK102.out,qw,qx,qv]) hg (Kd.R_ne HO_5.out BK102.out (by decide)));replace HI0:=U.mk (kx.grown (by solve_by_elim (maxDepth:=20) only[HI0.out,kx.alloc,kx.drewN,kx.drew,kx.set_1,kx.set_2,kx.far,NB0_101.out,kx.far,NB0_102.out]) hg (kx.own_ne HI0.out HO_5.out (by decide)));replace HB:=U.mk ((by rw[hw];exact qk (HB.out) (Nat.le_trans HL.out GB75.out):Below w0.heap.size w0 w77));replace HK:=U.mk (zq.trans (by solve_by_elim (maxDepth:=20) only[HK.out,zq.set_,zx,jz,jq,jj,GW101.out,jj,GW102.out]) (zq.of_grown hg g) (Kd.R_base2 HO_5.out));replace HO_5:=U.mk (hp_);clear hg hw hp_))
             (try simp only[← hl5_1])
             go_roundg k1
             case measure=>have:=HK1.out;omega
             case rel=>exact⟨(y135),(wrap64 (x45_1 + 1)),(by first|rfl|(simp;done)|(simp[*];done)),H',⟨by have:=HK1.out;omega⟩,⟨by(try simp only[hl5_1]);(with_reducible repeat(first|apply Kd.zv|apply Kd.zk|apply Kd.zw));exact HO_5.out⟩,⟨by(try simp only[hl5_1]);(with_reducible repeat(first|refine qw ?_ _|refine qx ?_|refine qv ?_ _));exact BK101.out⟩,⟨by(try simp only[hl5_1]);(with_reducible repeat(first|refine qw ?_ _|refine qx ?_|refine qv ?_ _));exact BK102.out⟩,⟨by repeat(first|(with_reducible first|exact HI0.out|apply kx.alloc|apply kx.drewN|apply kx.drew|apply kx.set_1|apply kx.set_2|refine kx.far ?_ NB0_101.out _|refine kx.far ?_ NB0_102.out _)|exact HI0.out)⟩,⟨by repeat(first|(with_reducible first|exact HK.out|apply zq.set_|apply zx|apply jz|apply jq|refine jj ?_ GW101.out _|refine jj ?_ GW102.out _)|exact HK.out)⟩,⟨by repeat(first|(with_reducible first|exact HB.out|apply G|apply J|apply qq|refine qk ?_ (kx.ge HI0.out)|refine qk ?_ GE101.out|refine qk ?_ GE102.out)|exact HB.out)⟩⟩
            ·rw[if_neg c74] at H
             exact absurd H (by simp)
           ·rw[if_neg c73] at H
            exact absurd H (by simp)
          ·rw[if_neg c72] at H
           have c72b0:decide (x45_1 < (y132.length:Int))=false:=decide_eq_false c72
           rw[hl5_1] at c72b0
           clear c72
           simp only[Option.some.injEq,Prod.mk.injEq] at H
           obtain⟨rfl,rfl,rfl,rfl,rfl,rfl⟩:=H
           have hcv78:=own_string (P:=Try.prog) Try.underlying22 Try.underlying5 Try.underlying9 (Kd.own_of_R HO_5.out)
           have hnb79:=NB101_102.out
           have hnc79:=NB102_101.out
           have hnb80:=NB101_0.out
           have hnc80:=NB0_101.out
           have hcz81_0:wr.cell? ⟨gb101,0,none⟩ = some (.int .i64 a1_0):=(qj BK101.out 0).trans rfl
           have hcz81_1:wr.cell? ⟨gb101,1,none⟩ = some (.int .i64 a1_1):=(qj BK101.out 1).trans rfl
           have hcz81_2:wr.cell? ⟨gb101,2,none⟩ = some (.string a1_2):=(qj BK101.out 2).trans rfl
           have hcz81_3:wr.cell? ⟨gb101,3,none⟩ = some (.string a1_3):=(qj BK101.out 3).trans rfl
           have hfz81_0:=qz BK101.out 0
           have hfz81_1:=qz BK101.out 1
           have hfz81_2:=qz BK101.out 2
           have hfz81_3:=qz BK101.out 3
           have hnb82:=NB102_0.out
           have hnc82:=NB0_102.out
           have hcz83_0:wr.cell? ⟨gb102,0,none⟩ = some (.int .i64 0):=(qj BK102.out 0).trans rfl
           have hcz83_1:wr.cell? ⟨gb102,1,none⟩ = some (.int .i64 0):=(qj BK102.out 1).trans rfl
           have hcz83_2:wr.cell? ⟨gb102,2,none⟩ = some (.string (⟨#[]⟩ : ByteArray)):=(qj BK102.out 2).trans rfl
           have hcz83_3:wr.cell? ⟨gb102,3,none⟩ = some (.string (⟨#[]⟩ : ByteArray)):=(qj BK102.out 3).trans rfl
           have hfz83_0:=qz BK102.out 0
           have hfz83_1:=qz BK102.out 1
           have hfz83_2:=qz BK102.out 2
           have hfz83_3:=qz BK102.out 3
           go_wp2
           refine bodyPost_ret (results_cell_row rfl _ _ gb102 34 #[.int .i64 a1_0,.int .i64 a1_1,.string (strOfNums x5_1),.string a1_3] (0,0) _ rfl (by(with_reducible repeat(first|refine qw ?_ _|refine qx ?_|refine qv ?_ _));refine blk_put (cs:=#[.int .i64 a1_0,.int .i64 a1_1,.string (strOfNums x5_1),.string (⟨#[]⟩ : ByteArray)]) ?_ 3 _ rfl;(with_reducible repeat(first|refine qw ?_ _|refine qx ?_|refine qv ?_ _));refine blk_put (cs:=#[.int .i64 a1_0,.int .i64 a1_1,.string (⟨#[]⟩ : ByteArray),.string (⟨#[]⟩ : ByteArray)]) ?_ 2 _ rfl;(with_reducible repeat(first|refine qw ?_ _|refine qx ?_|refine qv ?_ _));refine blk_put (cs:=#[.int .i64 a1_0,.int .i64 0,.string (⟨#[]⟩ : ByteArray),.string (⟨#[]⟩ : ByteArray)]) ?_ 1 _ rfl;(with_reducible repeat(first|refine qw ?_ _|refine qx ?_|refine qv ?_ _));refine blk_put (cs:=#[.int .i64 0,.int .i64 0,.string (⟨#[]⟩ : ByteArray),.string (⟨#[]⟩ : ByteArray)]) ?_ 0 _ rfl;(with_reducible repeat(first|refine qw ?_ _|refine qx ?_|refine qv ?_ _));refine blk_far ?_ NB102_101.out _;(with_reducible repeat(first|refine qw ?_ _|refine qx ?_|refine qv ?_ _));exact BK102.out) Try.underlying34 rfl (by kernel_rfl)) rfl ?_
           exact⟨by first|rfl|(simp[jv,jk] <;> rfl)|(simp only[← hji62];first|rfl|(simp[jv,jk] <;> rfl))|(simp[*,jv,jk] <;> rfl),by repeat(first|(with_reducible first|exact HI0.out|apply kx.alloc|apply kx.drewN|apply kx.drew|apply kx.set_1|apply kx.set_2|refine kx.far ?_ NB0_101.out _|refine kx.far ?_ NB0_102.out _)|exact HI0.out),by repeat(first|(with_reducible first|exact HB.out|apply G|apply J|apply qq|refine qk ?_ (kx.ge HI0.out)|refine qk ?_ GE101.out|refine qk ?_ GE102.out)|exact HB.out),by repeat(first|(with_reducible first|exact HK.out|apply zq.set_|apply zx|apply jz|apply jq|refine jj ?_ GW101.out _|refine jj ?_ GW102.out _)|exact HK.out)⟩
       ·rw[if_neg c64] at H
        exact absurd H (by simp)
      ·rw[if_neg c63] at H
       exact absurd H (by simp)
     ·rw[if_neg c60] at H
      have c60b0:(t103 == 4)=false:=beq_eq_false_iff_ne.mpr c60
      have c60b1:(t103 != 4)=true:=bne_iff_ne.mpr c60
      simp only[Option.some.injEq,Prod.mk.injEq] at H
      obtain⟨rfl,rfl,rfl,rfl,rfl,rfl⟩:=H
      go_enter Try.func87,Try.ntmps87
      go_wp2_with (first|((with_reducible refine gate_dst (N:=3) rfl ?_);refine box_event ?hg (N:=3) ?hd (cs:=#[.int .i64 a1_0,.int .i64 a1_1,.string a1_2,.string a1_3]) (t:=34) ?hr ?_;(case hd=>rfl);(case hg=>rfl);(case hr=>first|(go_simp;done)|(go_simp;rfl));intro gb101 hg w84 hbox hb;replace HB:=U.mk (zz (by solve_by_elim (maxDepth:=20) only[HB.out,G,J,qq,qk,(kx.ge HI0.out)]) hb);have BK101:=U.mk (hbox);have GW101:=U.mk ((by rw[hg];exact(keep_size (w:=w) (g:=g) (row:=none) (by solve_by_elim (maxDepth:=20) only[HK.out,zq.set_,zx,jz,jq])):w.heap.size≤gb101));have GE101:=U.mk ((Nat.le_trans HW0.out (by rw[hg];exact(keep_size (w:=w) (g:=g) (row:=none) (by solve_by_elim (maxDepth:=20) only[HK.out,zq.set_,zx,jz,jq])):w.heap.size≤gb101):w0.heap.size≤gb101));replace HK:=U.mk (zq.trans (by solve_by_elim (maxDepth:=20) only[HK.out,zq.set_,zx,jz,jq]) (zq.of_below hb g none) (.inl rfl));have NB0_101:=U.mk ((by rw[hg];exact Nat.ne_of_lt (kx.lt (show kx w0 _ g s0_0 s0_1 s0_2 from by repeat(first|(with_reducible first|exact HI0.out|apply kx.alloc|apply kx.drewN|apply kx.drew|apply kx.set_1|apply kx.set_2)|exact HI0.out))):g≠gb101));have NB101_0:=U.mk ((by rw[hg];exact Nat.ne_of_gt (kx.lt (show kx w0 _ g s0_0 s0_1 s0_2 from by repeat(first|(with_reducible first|exact HI0.out|apply kx.alloc|apply kx.drewN|apply kx.drew|apply kx.set_1|apply kx.set_2)|exact HI0.out))):gb101≠g));replace HI0:=U.mk (kx.below (by solve_by_elim (maxDepth:=20) only[HI0.out,kx.alloc,kx.drewN,kx.drew,kx.set_1,kx.set_2]) hb);clear hb hbox hg)|((with_reducible refine gate_dst (N:=4) rfl ?_);refine box_event ?hg (N:=4) ?hd (cs:=#[.int .i64 0,.int .i64 0,.string (⟨#[]⟩ : ByteArray),.string (⟨#[]⟩ : ByteArray)]) (t:=34) ?hr ?_;(case hd=>rfl);(case hg=>rfl);(case hr=>first|(go_simp;done)|(go_simp;rfl));intro gb102 hg w85 hbox hb;replace HB:=U.mk (zz (by solve_by_elim (maxDepth:=20) only[HB.out,G,J,qq,qk,(kx.ge HI0.out),qk,GE101.out]) hb);have BK102:=U.mk (hbox);have GW102:=U.mk ((by rw[hg];exact(keep_size (w:=w) (g:=g) (row:=none) (by solve_by_elim (maxDepth:=20) only[HK.out,zq.set_,zx,jz,jq,jj,GW101.out])):w.heap.size≤gb102));have GE102:=U.mk ((Nat.le_trans HW0.out (by rw[hg];exact(keep_size (w:=w) (g:=g) (row:=none) (by solve_by_elim (maxDepth:=20) only[HK.out,zq.set_,zx,jz,jq,jj,GW101.out])):w.heap.size≤gb102):w0.heap.size≤gb102));replace HK:=U.mk (zq.trans (by solve_by_elim (maxDepth:=20) only[HK.out,zq.set_,zx,jz,jq,jj,GW101.out]) (zq.of_below hb g none) (.inl rfl));have NB101_102:=U.mk ((by rw[hg];exact Nat.ne_of_lt (blk_lt (g:=gb101) (o:=.cells #[.int .i64 a1_0,.int .i64 a1_1,.string a1_2,.string a1_3] 34 (0,0)) (by solve_by_elim only[BK101.out,qw,qx,qv])):gb101≠gb102));have NB102_101:=U.mk ((by rw[hg];exact Nat.ne_of_gt (blk_lt (g:=gb101) (o:=.cells #[.int .i64 a1_0,.int .i64 a1_1,.string a1_2,.string a1_3] 34 (0,0)) (by solve_by_elim only[BK101.out,qw,qx,qv])):gb102≠gb101));replace BK101:=U.mk (kv (g:=gb101) (o:=.cells #[.int .i64 a1_0,.int .i64 a1_1,.string a1_2,.string a1_3] 34 (0,0)) (by solve_by_elim only[BK101.out,qw,qx,qv]) hb);have NB0_102:=U.mk ((by rw[hg];exact Nat.ne_of_lt (kx.lt (show kx w0 _ g s0_0 s0_1 s0_2 from by repeat(first|(with_reducible first|exact HI0.out|apply kx.alloc|apply kx.drewN|apply kx.drew|apply kx.set_1|apply kx.set_2|refine kx.far ?_ NB0_101.out _)|exact HI0.out))):g≠gb102));have NB102_0:=U.mk ((by rw[hg];exact Nat.ne_of_gt (kx.lt (show kx w0 _ g s0_0 s0_1 s0_2 from by repeat(first|(with_reducible first|exact HI0.out|apply kx.alloc|apply kx.drewN|apply kx.drew|apply kx.set_1|apply kx.set_2|refine kx.far ?_ NB0_101.out _)|exact HI0.out))):gb102≠g));replace HI0:=U.mk (kx.below (by solve_by_elim (maxDepth:=20) only[HI0.out,kx.alloc,kx.drewN,kx.drew,kx.set_1,kx.set_2,kx.far,NB0_101.out]) hb);clear hb hbox hg)|((with_reducible refine jw (f:=54) rfl ?_);refine goesL_ (some 8) rfl rfl Try.func54 (by kernel_rfl) rfl #[.pointer (some ⟨g,0,none⟩),.int .i64 16] rfl (by(try simp only[jq0,jq1,jq2]);first|done|rfl|(simp only[jq3,jq4];rfl)) ?_;(with_reducible refine(qjx.calls g s0_0 s0_1 s0_2 16 t103 t104 t105 w0 _ ?side1 ?side2 A3.out).mono ?_);(case side1=>repeat(first|(with_reducible first|exact HI0.out|apply kx.alloc|apply kx.drewN|apply kx.drew|apply kx.set_1|apply kx.set_2|refine kx.far ?_ NB0_101.out _|refine kx.far ?_ NB0_102.out _)|exact HI0.out));(case side2=>repeat(first|(with_reducible first|exact HB.out|apply G|apply J|apply qq|refine qk ?_ (kx.ge HI0.out)|refine qk ?_ GE101.out|refine qk ?_ GE102.out)|exact HB.out));rintro e w86 ⟨rfl,hi,hb,hk⟩;refine⟨_,rfl,?_⟩;replace BK101:=U.mk (zq.blk hk (g':=gb101) (o:=.cells #[.int .i64 a1_0,.int .i64 a1_1,.string a1_2,.string a1_3] 34 (0,0)) (by solve_by_elim only[BK101.out,qw,qx,qv]) NB101_0.out (by simp));replace BK102:=U.mk (zq.blk hk (g':=gb102) (o:=.cells #[.int .i64 0,.int .i64 0,.string (⟨#[]⟩ : ByteArray),.string (⟨#[]⟩ : ByteArray)] 34 (0,0)) (by solve_by_elim only[BK102.out,qw,qx,qv]) NB102_0.out (by simp));replace HK:=U.mk (zq.trans (by solve_by_elim (maxDepth:=20) only[HK.out,zq.set_,zx,jz,jq,jj,GW101.out,jj,GW102.out]) hk (.inl rfl));replace HB:=U.mk (hb);replace HI0:=U.mk (hi);(try clear hb hk hi);have hnb87:=NB101_102.out;have hnc87:=NB102_101.out;have hnb88:=NB101_0.out;have hnc88:=NB0_101.out;have hcz89_0:w86.cell? ⟨gb101,0,none⟩ = some (.int .i64 a1_0):=(qj BK101.out 0).trans rfl;have hcz89_1:w86.cell? ⟨gb101,1,none⟩ = some (.int .i64 a1_1):=(qj BK101.out 1).trans rfl;have hcz89_2:w86.cell? ⟨gb101,2,none⟩ = some (.string a1_2):=(qj BK101.out 2).trans rfl;have hcz89_3:w86.cell? ⟨gb101,3,none⟩ = some (.string a1_3):=(qj BK101.out 3).trans rfl;have hfz89_0:=qz BK101.out 0;have hfz89_1:=qz BK101.out 1;have hfz89_2:=qz BK101.out 2;have hfz89_3:=qz BK101.out 3;have hnb90:=NB102_0.out;have hnc90:=NB0_102.out;have hcz91_0:w86.cell? ⟨gb102,0,none⟩ = some (.int .i64 0):=(qj BK102.out 0).trans rfl;have hcz91_1:w86.cell? ⟨gb102,1,none⟩ = some (.int .i64 0):=(qj BK102.out 1).trans rfl;have hcz91_2:w86.cell? ⟨gb102,2,none⟩ = some (.string (⟨#[]⟩ : ByteArray)):=(qj BK102.out 2).trans rfl;have hcz91_3:w86.cell? ⟨gb102,3,none⟩ = some (.string (⟨#[]⟩ : ByteArray)):=(qj BK102.out 3).trans rfl;have hfz91_0:=qz BK102.out 0;have hfz91_1:=qz BK102.out 1;have hfz91_2:=qz BK102.out 2;have hfz91_3:=qz BK102.out 3))
      refine bodyPost_ret (results_cell_row rfl _ _ gb102 34 #[.int .i64 a1_0,.int .i64 a1_1,.string a1_2,.string a1_3] (0,0) _ rfl (by(with_reducible repeat(first|refine qw ?_ _|refine qx ?_|refine qv ?_ _));refine blk_put (cs:=#[.int .i64 a1_0,.int .i64 a1_1,.string a1_2,.string (⟨#[]⟩ : ByteArray)]) ?_ 3 _ rfl;(with_reducible repeat(first|refine qw ?_ _|refine qx ?_|refine qv ?_ _));refine blk_put (cs:=#[.int .i64 a1_0,.int .i64 a1_1,.string (⟨#[]⟩ : ByteArray),.string (⟨#[]⟩ : ByteArray)]) ?_ 2 _ rfl;(with_reducible repeat(first|refine qw ?_ _|refine qx ?_|refine qv ?_ _));refine blk_put (cs:=#[.int .i64 a1_0,.int .i64 0,.string (⟨#[]⟩ : ByteArray),.string (⟨#[]⟩ : ByteArray)]) ?_ 1 _ rfl;(with_reducible repeat(first|refine qw ?_ _|refine qx ?_|refine qv ?_ _));refine blk_put (cs:=#[.int .i64 0,.int .i64 0,.string (⟨#[]⟩ : ByteArray),.string (⟨#[]⟩ : ByteArray)]) ?_ 0 _ rfl;(with_reducible repeat(first|refine qw ?_ _|refine qx ?_|refine qv ?_ _));exact BK102.out) Try.underlying34 rfl (by kernel_rfl)) rfl ?_
      exact⟨by first|rfl|(simp[*,jv,jk] <;> rfl),by repeat(first|(with_reducible first|exact HI0.out|apply kx.alloc|apply kx.drewN|apply kx.drew|apply kx.set_1|apply kx.set_2|refine kx.far ?_ NB0_101.out _|refine kx.far ?_ NB0_102.out _)|exact HI0.out),by repeat(first|(with_reducible first|exact HB.out|apply G|apply J|apply qq|refine qk ?_ (kx.ge HI0.out)|refine qk ?_ GE101.out|refine qk ?_ GE102.out)|exact HB.out),by repeat(first|(with_reducible first|exact HK.out|apply zq.set_|apply zx|apply jz|apply jq|refine jj ?_ GW101.out _|refine jj ?_ GW102.out _)|exact HK.out)⟩
end Go.Proofs.Ytccbjchlcelkgaa.Pr
