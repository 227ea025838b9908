/- Printed texts, walks and plain facts that the law FnExactRotateRing leans on, joined. -/
import Derived.Test.YtakocdkcfjkmdaaFullFnExactRotateRingA
import Derived.ProofKit
import Derived.OpenShut
import Derived.ShutString
import Derived.ChangeOld
import Derived.Deep.Slices
import Derived.Lib.SmallJoins
import Derived.Test.YtakocdkcfjkmdaaProg
import Derived.Below
import Derived.Deep.Draws
import Derived.Deep.AppendLies
import Derived.Maps.AppendAt
import Derived.OwnWalk
import Derived.Laws.BytesArg
import Derived.Laws.MakeOwn
import Derived.Laws.OwnMore
import Derived.Deep.OwnRows
import Derived.Tactics
import Derived.Lib.ConvBytes
import Derived.Laws.Slices
import Derived.WalkKit
import Derived.KernelRfl
import Derived.RowKit3
import Derived.Deep.LoopGhost
import Derived.Deep.QuietTactic
import Derived.BigQuiet
import Derived.WideLaws
import Derived.Deep.DeepCutAuto
import Derived.Deep.CutBlock
import Derived.Deep.RegionHeld3
import Derived.Laws.Rows
import Derived.Lib.AppendStr
import Derived.ArgAppend
import Derived.Laws.IdiomCopy
import Derived.OrdersHeld
import Derived.Laws.BitsLemmas
import Derived.RowKit
import Derived.Laws.Cover1
import Derived.Shelf.SlSortCmp.InsertionK
import Derived.WalkSpells
import Derived.Shelf.Abstract
namespace Go.Proofs.Ytakocdkcfjkmdaa.Read
open Go.RowKit Go.ChangeShapes Go.WideShapes Go.Deep Go.Proofs.YtakocdkcfjkmdaaW.PrintWords
set_option linter.unusedVariables false
def Tells (P : Program) (t : TypeId) {α : Type} (d : Kd α) (ok : α → Prop) : Prop :=
 P.cellsOf t = d.sz ∧ ∀ (H : Type) (enc : TypeId × Value → H) (w : World) (sp : Nat → Bool) (fuel : Nat) (cs : List Value) (x : DataW H × List MemPlace),
  DataW.trod enc P w 0 sp true fuel t cs = some x → ∃ a : α,d.K w a cs ∧ ok a
theorem tells_int {P : Program} {t : TypeId} {k : IntKind} (ht : P.underlying t = some (.int k)) (hc : P.cellsOf t = 1) : Tells P t (Kd.int k) (fun n => (Lit.int k n).wf = true) :=
 ⟨hc,fun H enc w sp fuel cs x h => by
  obtain ⟨n,rfl,_,hw⟩ := DataW.trod_int ht h
  exact ⟨n,rfl,hw⟩⟩
theorem tells_string {P : Program} {t : TypeId} (ht : P.underlying t = some .string) (hc : P.cellsOf t = 1) : Tells P t Kd.string (fun s => s.size ≤ maxLen) :=
 ⟨hc,fun H enc w sp fuel cs x h => by
  obtain ⟨n,rfl,_,hs⟩ := DataW.trod_string ht h
  exact ⟨n,rfl,hs⟩⟩
theorem tells_slice {P : Program} {t e : TypeId} {α : Type} {d : Kd α} {ok : α → Prop} (ht : P.underlying t = some (.slice e)) (hc : P.cellsOf t = 1) (he : Tells P e d ok) :
  Tells P t (Kd.slice e d) (fun xs => xs.length ≤ 9223372036854775807 ∧ ∀ x ∈ xs,ok x) := by
 refine ⟨hc,fun H enc w sp fuel cs x h => ?_⟩
 rcases open_slice ht h with ⟨rfl,_⟩ | ⟨a,len,cap,m,n,D,Pl,rfl,_,hl,hm,hmm,_,hx⟩
 ·exact ⟨[],⟨none,0,rfl,by simp,Kd.C_nil d w⟩,by simp,by simp⟩
 ·have hlm : len ≤ m := by rw [hmm];split <;> omega
  have hmax : len ≤ 9223372036854775807 := by unfold maxLen at hm;omega
  have key : ∀ j,j ≤ len → ∃ xs : List α,xs.length = j ∧ (∀ x ∈ xs,ok x) ∧ ∀ i p,xs[i]? = some p → ∃ c,c.length = d.sz ∧ d.K w p c ∧ ∀ k u,c[k]? = some u → w.cell? (a.add (i * d.sz + k)) = some u := by
   intro j
   induction j with
   | zero => exact fun _ => ⟨[],rfl,by simp,by simp⟩
   | succ j ih =>
    intro hj
    obtain ⟨xs,hxl,hok,hc⟩ := ih (by omega)
    obtain ⟨cs',h1,h2⟩ := hx j (by omega)
    obtain ⟨y,hy,hoky⟩ := he.2 H enc w sp n cs' _ h2
    obtain ⟨_,hcl,hcc⟩ := World.cells?_some h1
    refine ⟨xs ++ [y],by simp [hxl],fun x hx => ?_,fun i p hp => ?_⟩
    ·rcases List.mem_append.1 hx with hx | hx
     ·exact hok x hx
     ·rw [List.mem_singleton.1 hx];exact hoky
    ·rcases Nat.lt_or_ge i xs.length with hi | hi
     ·rw [List.getElem?_append_left hi] at hp
      exact hc i p hp
     ·rw [List.getElem?_append_right hi] at hp
      have hi' : i = xs.length := by
       rcases Nat.eq_zero_or_pos (i - xs.length) with h0 | h0
       ·omega
       ·rw [List.getElem?_eq_none (by simp;omega)] at hp;cases hp
      subst hi'
      simp only [Nat.sub_self,List.getElem?_cons_zero,Option.some.injEq] at hp
      subst hp
      refine ⟨cs',by rw [hcl,he.1],hy,fun k u hu => ?_⟩
      have hk : k < P.cellsOf e := by
       rcases Nat.lt_or_ge k cs'.length with h | h
       ·omega
       ·rw [List.getElem?_eq_none h] at hu;cases hu
      have := hcc k hk
      rw [Go.Addr.add_add,he.1,← hxl] at this
      rw [this];exact hu
  obtain ⟨xs,hxl,hok,hc⟩ := key len (Nat.le_refl _)
  refine ⟨xs,⟨some a,cap,by rw [hxl],by omega,?_⟩,by omega,hok⟩
  exact ⟨rfl,by omega,fun _ => ⟨a,rfl,hc⟩⟩
def TellsFs (P : Program) (fs : List Field) (o : Nat) {α : Type} (d : Kd α) (ok : α → Prop) : Prop :=
 ∀ (H : Type) (enc : TypeId × Value → H) (w : World) (sp : Nat → Bool) (n : Nat) (cs : List Value),o + d.sz = cs.length →
  (∀ f ∈ fs,∃ x,DataW.trod enc P w 0 sp true n f.type ((cs.drop f.offset).take (P.cellsOf f.type)) = some x) → ∃ a,d.K w a (cs.drop o) ∧ ok a
theorem fs_one {P : Program} {f : Field} {o : Nat} {α : Type} {d : Kd α} {ok : α → Prop} (ho : f.offset = o) (hf : Tells P f.type d ok) : TellsFs P [f] o d ok := by
 intro H enc w sp n cs hl h
 obtain ⟨x,hx⟩ := h f List.mem_cons_self
 obtain ⟨a,ha,hok⟩ := hf.2 H enc w sp n _ x hx
 refine ⟨a,?_,hok⟩
 rw [ho,hf.1,List.take_of_length_le (by rw [List.length_drop];omega)] at ha
 exact ha
theorem fs_cons {P : Program} {f : Field} {fs : List Field} {o : Nat} {α β : Type} {d : Kd α} {ok : α → Prop} {d2 : Kd β} {ok2 : β → Prop} (ho : f.offset = o) (hf : Tells P f.type d ok)
  (hr : TellsFs P fs (o + d.sz) d2 ok2) : TellsFs P (f :: fs) o (Kd.pair d d2) (fun p => ok p.1 ∧ ok2 p.2) := by
 intro H enc w sp n cs hl h
 have hl' : o + (d.sz + d2.sz) = cs.length := hl
 obtain ⟨x,hx⟩ := h f List.mem_cons_self
 obtain ⟨a,ha,hok⟩ := hf.2 H enc w sp n _ x hx
 obtain ⟨b,hb,hok2⟩ := hr H enc w sp n cs (by omega) (fun g hg => h g (List.mem_cons_of_mem _ hg))
 refine ⟨(a,b),⟨(cs.drop o).take d.sz,cs.drop (o + d.sz),?_,?_,hb⟩,hok,hok2⟩
 ·rw [← List.drop_drop,List.take_append_drop]
 ·rw [ho,hf.1] at ha;exact ha
theorem tells_struct {P : Program} {t : TypeId} {fs : Array Field} {α : Type} {d : Kd α} {ok : α → Prop} (ht : P.underlying t = some (.struct fs)) (hc : P.cellsOf t = d.sz) (hf : TellsFs P fs.toList 0 d ok) : Tells P t d ok := by
 refine ⟨hc,fun H enc w sp fuel cs x h => ?_⟩
 obtain ⟨xs,n,rfl,_,hl,hxl,hx⟩ := DataW.trod_struct ht h
 have := hf H enc w sp n cs (by rw [Nat.zero_add,← hc,hl]) (fun f hmem => by
  obtain ⟨i,hi,rfl⟩ := List.getElem_of_mem hmem
  have hi' : i < fs.size := by simpa using hi
  have h1 := hx i (fs.toList[i]) (by simp [hi'])
  refine ⟨xs[i]'(by omega),?_⟩
  rw [h1,List.getElem?_eq_getElem])
 simpa using this
theorem tells_iso {P : Program} {t : TypeId} {α β : Type} {d : Kd α} {ok : α → Prop} (f : β → α) (g : α → β) (hfg : ∀ a,f (g a) = a) (h : Tells P t d ok) : Tells P t (Kd.iso d f) (fun b => ok (f b)) :=
 ⟨h.1,fun H enc w sp fuel cs x hx => by
  obtain ⟨a,ha,hok⟩ := h.2 H enc w sp fuel cs x hx
  exact ⟨g a,by show d.K w (f (g a)) cs;rw [hfg];exact ha,by show ok (f (g a));rw [hfg];exact hok⟩⟩
theorem tells_weaken {P : Program} {t : TypeId} {α : Type} {d : Kd α} {ok ok' : α → Prop} (h : Tells P t d ok) (hw : ∀ a,ok a → ok' a) : Tells P t d ok' :=
 ⟨h.1,fun H enc w sp fuel cs x hx => let ⟨a,ha,ho⟩ := h.2 H enc w sp fuel cs x hx;⟨a,ha,hw a ho⟩⟩
theorem tells_arg {P : Program} {t : TypeId} {α : Type} {d : Kd α} {ok : α → Prop} (h : Tells P t d ok) {H : Type} {enc : TypeId × Value → H} {w : World} {sp : Nat → Bool} {v : Value} {D : DataW H} {ps : List MemPlace}
  (hv : DataW.Trod enc P w 0 sp true t v D ps) : ∃ a,d.K w a v.cells.toList ∧ ok a := by
 obtain ⟨fuel,hf⟩ := hv
 exact h.2 H enc w sp fuel _ _ hf
theorem int_bounds {n : Int} (h : (Lit.int .i64 n).wf = true) : -9223372036854775808 ≤ n ∧ n ≤ 9223372036854775807 := by
 simpa [Lit.wf,IntKind.min,IntKind.max,IntKind.signed,IntKind.bits] using h
def okI (n : Int) : Prop := -9223372036854775808 ≤ n ∧ n ≤ 9223372036854775807
def okS (s : ByteArray) : Prop := s.size ≤ 9223372036854775807
def okL {α : Type} (ok : α → Prop) (xs : List α) : Prop := xs.length ≤ 9223372036854775807 ∧ ∀ x ∈ xs,ok x
theorem tellsI {P : Program} {t : TypeId} (ht : P.underlying t = some (.int .i64)) (hc : P.cellsOf t = 1) : Tells P t (Kd.int .i64) okI := tells_weaken (tells_int ht hc) fun _ h => int_bounds h
theorem tellsS {P : Program} {t : TypeId} (ht : P.underlying t = some .string) (hc : P.cellsOf t = 1) : Tells P t Kd.string okS := tells_weaken (tells_string ht hc) fun _ h => by unfold maxLen at h;exact h
theorem tellsL {P : Program} {t e : TypeId} {α : Type} {d : Kd α} {ok : α → Prop} (ht : P.underlying t = some (.slice e)) (hc : P.cellsOf t = 1) (he : Tells P e d ok) : Tells P t (Kd.slice e d) (okL ok) := tells_slice ht hc he
theorem agg_of {P : Program} {t : TypeId} {fs : Array Field} {w : World} {r : Reach} {base : Nat} {v : Value} {cs : List Value} (ht : P.underlying t = some (.struct fs)) (hv : Value.okWide P w r base t v) (hc : v.cells.toList = cs) : v = .agg cs.toArray := by
 obtain ⟨xs,rfl,_⟩ := okWide_struct ht hv
 subst hc
 simp [Value.cells]
theorem arg_struct {P : Program} {t : TypeId} {fs : Array Field} {α : Type} {d : Kd α} {ok : α → Prop} (ht : P.underlying t = some (.struct fs)) (h : Tells P t d ok) {H : Type} {enc : TypeId × Value → H} {w w2 : World} {r : Reach} {base : Nat} {sp : Nat → Bool} {v : Value} {D : DataW H} {ps : List MemPlace}
  (ho : Value.okWide P w2 r base t v) (hv : DataW.Trod enc P w 0 sp true t v D ps) : ∃ a cs,v = .agg cs.toArray ∧ d.K w a cs ∧ ok a := by
 obtain ⟨a,hK,hok⟩ := tells_arg h hv
 exact ⟨a,_,agg_of ht ho rfl,hK,hok⟩
theorem arg_slice {P : Program} {t e : TypeId} {α : Type} {d : Kd α} {ok : α → Prop} (ht : P.underlying t = some (.slice e)) (h : Tells P t (Kd.slice e d) (okL ok)) {H : Type} {enc : TypeId × Value → H} {w w2 : World} {r : Reach} {base : Nat} {sp : Nat → Bool} {v : Value} {D : DataW H} {ps : List MemPlace}
  (ho : Value.okWide P w2 r base t v) (hv : DataW.Trod enc P w 0 sp true t v D ps) : ∃ A c xs,v = .slice A xs.length c ∧ xs.length ≤ c ∧ d.C w A xs.length xs ∧ okL ok xs := by
 obtain ⟨a,l,c,rfl⟩ := okWide_slice ht ho
 obtain ⟨xs,⟨A,c',hc,hl,hC⟩,hok⟩ := tells_arg h hv
 simp only [Value.cells,List.cons.injEq,and_true,Value.slice.injEq] at hc
 obtain ⟨rfl,rfl,rfl⟩ := hc
 exact ⟨_,_,xs,rfl,hl,hC,hok⟩
end Go.Proofs.Ytakocdkcfjkmdaa.Read
namespace Go.Proofs.Ytakocdkcfjkmdaa.Pr
open Go.RowKit Go.Proofs.YtakocdkcfjkmdaaW.PrintWords Go.Proofs.YtakocdkcfjkmdaaW.PrintLast Go.Proofs.YtakocdkcfjkmdaaW.PrintMore
attribute [local go_sem] max2_int min2_int max_two min_two max_three min_three max_four min_four
set_option linter.unusedVariables false
set_option linter.unusedSimpArgs false
def errW : Option Int → Value
 | none => .nilIface
 | some c => .iface 0 (.int .i64 c)
theorem jk : errW none = .nilIface := rfl
theorem jj (c : Int) : errW (some c) = .iface 0 (.int .i64 c) := rfl
theorem info53 : (Try.prog.info? 53).map (fun i => (i.zero,i.size,i.bytes)) = some (some (.agg #[(.string ⟨#[]⟩),(.int .i64 0),(.int .i64 0),(.int .i64 0)]),4,40) := by kernel_rfl
structure S50 where
 f0 : ByteArray
 f1 : Int
 f2 : Int
 f3 : Int
def z50 : S50 := ⟨(⟨#[]⟩ : ByteArray),(0 : Int),(0 : Int),(0 : Int)⟩
def k50 : Kd S50 := Kd.iso (Kd.pair Kd.string (Kd.pair (Kd.int .i64) (Kd.pair (Kd.int .i64) (Kd.int .i64)))) (fun x : S50 => (x.f0,x.f1,x.f2,x.f3))
theorem k50_open {w : World} {x : S50} {cs : List Value} (h : k50.K w x cs) : cs = [.string x.f0,.int .i64 x.f1,.int .i64 x.f2,.int .i64 x.f3] := by
 obtain ⟨_,_,rfl,rfl,⟨_,_,rfl,rfl,⟨_,_,rfl,rfl,rfl⟩⟩⟩ := h
 exact rfl
def kv (xs : List S50) (i : Int) : S50 := xs.getD i.toNat z50
theorem at_T50 {w : World} {A : Option Addr} {n : Nat} {xs : List S50} (h : Kd.C k50 w A n xs) (i : Int) (h0 : 0 ≤ i) (h1 : i < n) : ∃ ad ,A = some ad ∧ w.cell? (ad.add (i.toNat * 4)) = some (.string (kv xs i).f0) ∧ w.cell? ⟨(ad.add (i.toNat * 4)).block,(ad.add (i.toNat * 4)).off + 1,none⟩ = some (.int .i64 (kv xs i).f1) ∧ w.cell? ⟨(ad.add (i.toNat * 4)).block,(ad.add (i.toNat * 4)).off + 2,none⟩ = some (.int .i64 (kv xs i).f2) ∧ w.cell? ⟨(ad.add (i.toNat * 4)).block,(ad.add (i.toNat * 4)).off + 3,none⟩ = some (.int .i64 (kv xs i).f3) := by
 obtain ⟨ad,c,e,_,hK,hc0⟩ := Kd.C_get h z50 i h0 h1
 have hc : ∀ j u,c[j]? = some u → w.cell? (ad.add (i.toNat * 4 + j)) = some u := hc0
 obtain rfl := k50_open hK
 exact ⟨ad,e,hc 0 _ rfl,by rw [← add_field _ _ 1 (by omega)];exact hc 1 _ rfl,by rw [← add_field _ _ 2 (by omega)];exact hc 2 _ rfl,by rw [← add_field _ _ 3 (by omega)];exact hc 3 _ rfl⟩
structure S53 where
 f0 : ByteArray
 f1 : Int
 f2 : Int
 f3 : Int
def z53 : S53 := ⟨(⟨#[]⟩ : ByteArray),(0 : Int),(0 : Int),(0 : Int)⟩
def k53 : Kd S53 := Kd.iso (Kd.pair Kd.string (Kd.pair (Kd.int .i64) (Kd.pair (Kd.int .i64) (Kd.int .i64)))) (fun x : S53 => (x.f0,x.f1,x.f2,x.f3))
theorem k53_open {w : World} {x : S53} {cs : List Value} (h : k53.K w x cs) : cs = [.string x.f0,.int .i64 x.f1,.int .i64 x.f2,.int .i64 x.f3] := by
 obtain ⟨_,_,rfl,rfl,⟨_,_,rfl,rfl,⟨_,_,rfl,rfl,rfl⟩⟩⟩ := h
 exact rfl
theorem k53_openM {w : World} {base : Nat} {ok : Nat → Prop} {x : S53} {cs : List Value} (h : k53.M w base ok x cs) : cs = [.string x.f0,.int .i64 x.f1,.int .i64 x.f2,.int .i64 x.f3] := by
 obtain ⟨_,_,rfl,rfl,⟨_,_,rfl,rfl,⟨_,_,rfl,rfl,rfl⟩⟩⟩ := h
 exact rfl
theorem k53_mkM (w : World) (base : Nat) (ok : Nat → Prop) (x : S53)  : k53.M w base ok x [.string x.f0,.int .i64 x.f1,.int .i64 x.f2,.int .i64 x.f3] := ⟨[.string x.f0],[.int .i64 x.f1,.int .i64 x.f2,.int .i64 x.f3],rfl,rfl,⟨[.int .i64 x.f1],[.int .i64 x.f2,.int .i64 x.f3],rfl,rfl,⟨[.int .i64 x.f2],[.int .i64 x.f3],rfl,rfl,rfl⟩⟩⟩
def kw (xs : List S53) (i : Int) : S53 := xs.getD i.toNat z53
theorem at_T53 {w : World} {A : Option Addr} {n : Nat} {xs : List S53} (h : Kd.C k53 w A n xs) (i : Int) (h0 : 0 ≤ i) (h1 : i < n) : ∃ ad ,A = some ad ∧ w.cell? (ad.add (i.toNat * 4)) = some (.string (kw xs i).f0) ∧ w.cell? ⟨(ad.add (i.toNat * 4)).block,(ad.add (i.toNat * 4)).off + 1,none⟩ = some (.int .i64 (kw xs i).f1) ∧ w.cell? ⟨(ad.add (i.toNat * 4)).block,(ad.add (i.toNat * 4)).off + 2,none⟩ = some (.int .i64 (kw xs i).f2) ∧ w.cell? ⟨(ad.add (i.toNat * 4)).block,(ad.add (i.toNat * 4)).off + 3,none⟩ = some (.int .i64 (kw xs i).f3) := by
 obtain ⟨ad,c,e,_,hK,hc0⟩ := Kd.C_get h z53 i h0 h1
 have hc : ∀ j u,c[j]? = some u → w.cell? (ad.add (i.toNat * 4 + j)) = some u := hc0
 obtain rfl := k53_open hK
 exact ⟨ad,e,hc 0 _ rfl,by rw [← add_field _ _ 1 (by omega)];exact hc 1 _ rfl,by rw [← add_field _ _ 2 (by omega)];exact hc 2 _ rfl,by rw [← add_field _ _ 3 (by omega)];exact hc 3 _ rfl⟩
structure S96 where
 f0 : ByteArray
 f1 : (List Int)
 f2 : (List ByteArray)
 f3 : (List ByteArray)
 f4 : (List Int)
structure S77 where
 f0 : ByteArray
 f1 : (List Int)
 f2 : (List ByteArray)
 f3 : (List ByteArray)
 f4 : (List Int)
def qqk.f (a0 : Int) : Option (Bool) := if a0 ≥ 97 then (if a0 ≤ 122 then (some true) else (if a0 ≥ 65 then (some (decide (a0 ≤ 90))) else (some false))) else (if a0 ≥ 65 then (some (decide (a0 ≤ 90))) else (some false))
set_option maxHeartbeats 8000000 in
set_option maxRecDepth 100000 in
theorem qqk.calls (a0 : Int) (r : Bool) (w : World) (h : qqk.f a0 = some r) :
  Calls Try.prog 66 #[.int .u8 a0] w fun e w' => e = .returned (.bool r) ∧ Drawn0 w w' := by
 have H : (if a0 ≥ 97 then (if a0 ≤ 122 then (some true) else (if a0 ≥ 65 then (some (decide (a0 ≤ 90))) else (some false))) else (if a0 ≥ 65 then (some (decide (a0 ≤ 90))) else (some false))) = some r := h
 clear h
 by_cases c2 : a0 ≥ 97
 ·rw [if_pos c2] at H
  have c2b0 : decide (97 ≤ a0) = true := decide_eq_true c2
  clear c2
  by_cases c3 : a0 ≤ 122
  ·rw [if_pos c3] at H
   have c3b0 : decide (a0 ≤ 122) = true := decide_eq_true c3
   clear c3
   obtain rfl := Option.some.inj H
   go_enter Try.func66,Try.ntmps66
   go_wp2
   go_ret
   exact ⟨by first | rfl | (simp;done) | (simp [*];done),by repeat (first | exact Drawn0.refl _ | apply Drawn0.step)⟩
  ·rw [if_neg c3] at H
   have c3b0 : decide (a0 ≤ 122) = false := decide_eq_false c3
   clear c3
   by_cases c4 : a0 ≥ 65
   ·rw [if_pos c4] at H
    have c4b0 : decide (65 ≤ a0) = true := decide_eq_true c4
    clear c4
    obtain rfl := Option.some.inj H
    go_enter Try.func66,Try.ntmps66
    go_wp2
    go_ret
    exact ⟨by first | rfl | (simp;done) | (simp [*];done),by repeat (first | exact Drawn0.refl _ | apply Drawn0.step)⟩
   ·rw [if_neg c4] at H
    have c4b0 : decide (65 ≤ a0) = false := decide_eq_false c4
    clear c4
    obtain rfl := Option.some.inj H
    go_enter Try.func66,Try.ntmps66
    go_wp2
    go_ret
    exact ⟨by first | rfl | (simp;done) | (simp [*];done),by repeat (first | exact Drawn0.refl _ | apply Drawn0.step)⟩
 ·rw [if_neg c2] at H
  have c2b0 : decide (97 ≤ a0) = false := decide_eq_false c2
  clear c2
  by_cases c5 : a0 ≥ 65
  ·rw [if_pos c5] at H
   have c5b0 : decide (65 ≤ a0) = true := decide_eq_true c5
   clear c5
   obtain rfl := Option.some.inj H
   go_enter Try.func66,Try.ntmps66
   go_wp2
   go_ret
   exact ⟨by first | rfl | (simp;done) | (simp [*];done),by repeat (first | exact Drawn0.refl _ | apply Drawn0.step)⟩
  ·rw [if_neg c5] at H
   have c5b0 : decide (65 ≤ a0) = false := decide_eq_false c5
   clear c5
   obtain rfl := Option.some.inj H
   go_enter Try.func66,Try.ntmps66
   go_wp2
   go_ret
   exact ⟨by first | rfl | (simp;done) | (simp [*];done),by repeat (first | exact Drawn0.refl _ | apply Drawn0.step)⟩
def qqj.f (a0 : Int) : Option (Bool) := if a0 ≥ 48 then (some (decide (a0 ≤ 57))) else (some false)
set_option maxHeartbeats 8000000 in
set_option maxRecDepth 100000 in
theorem qqj.calls (a0 : Int) (r : Bool) (w : World) (h : qqj.f a0 = some r) :
  Calls Try.prog 67 #[.int .u8 a0] w fun e w' => e = .returned (.bool r) ∧ Drawn0 w w' := by
 have H : (if a0 ≥ 48 then (some (decide (a0 ≤ 57))) else (some false)) = some r := h
 clear h
 by_cases c2 : a0 ≥ 48
 ·rw [if_pos c2] at H
  have c2b0 : decide (48 ≤ a0) = true := decide_eq_true c2
  clear c2
  obtain rfl := Option.some.inj H
  go_enter Try.func67,Try.ntmps67
  go_wp2
  go_ret
  exact ⟨by first | rfl | (simp;done) | (simp [*];done),by repeat (first | exact Drawn0.refl _ | apply Drawn0.step)⟩
 ·rw [if_neg c2] at H
  have c2b0 : decide (48 ≤ a0) = false := decide_eq_false c2
  clear c2
  obtain rfl := Option.some.inj H
  go_enter Try.func67,Try.ntmps67
  go_wp2
  go_ret
  exact ⟨by first | rfl | (simp;done) | (simp [*];done),by repeat (first | exact Drawn0.refl _ | apply Drawn0.step)⟩
def qqx.l0 : Nat → ByteArray → Int → Option (Bool)
 | 0,_,_ => none
 | k + 1,x0,x3 => if x3 < (x0.size : Int) then (if 0 ≤ x3 then ((qqk.f (bt x0 x3)).bind fun t101 => (if t101 = true then (qqx.l0 k x0 (wrap64 (x3 + 1))) else ((qqj.f (bt x0 x3)).bind fun t102 => (if t102 = true then (qqx.l0 k x0 (wrap64 (x3 + 1))) else (if (bt x0 x3) = 95 then (qqx.l0 k x0 (wrap64 (x3 + 1))) else (if (bt x0 x3) = 45 then (qqx.l0 k x0 (wrap64 (x3 + 1))) else (if (bt x0 x3) = 46 then (qqx.l0 k x0 (wrap64 (x3 + 1))) else (some false)))))))) else (none)) else (if (x0.size : Int) ≥ 1 then (some (decide ((x0.size : Int) ≤ 40))) else (some false))
def qqx.f (k : Nat) (a0 : ByteArray) : Option (Bool) := qqx.l0 k a0 0
set_option maxHeartbeats 8000000 in
set_option maxRecDepth 100000 in
theorem qqx.calls (k : Nat) (a0 : ByteArray) (r : Bool) (w : World) (h : qqx.f k a0 = some r) :
  Calls Try.prog 37 #[.string a0] w fun e w' => e = .returned (.bool r) ∧ Drawn0 w w' := by
 have H : (qqx.l0 k a0 0) = some r := h
 clear h
 have H' := qq.mk H
 clear H
 go_enter Try.func37,Try.ntmps37
 go_wp2
 go_loopg [3] k (fun kq v3 w' => ∃ (x3_1 : Int),v3 = .int .i64 x3_1 ∧ qq (qqx.l0 kq a0 x3_1 = some r) ∧ qq (kq ≤ k) ∧ Drawn0 w w')
 case atStart => exact ⟨(0),(by first | rfl | (simp;done) | (simp [*];done)),H',⟨Nat.le_refl _⟩,by repeat (first | exact Drawn0.refl _ | apply Drawn0.step)⟩
 case round =>
  clear H'
  obtain ⟨x3_1,rfl,HA,HK1,⟨m1,rfl⟩⟩ := hrel
  cases gk with
  | zero => exact absurd HA.out (by simp [qqx.l0])
  | succ k1 =>
   have H := HA.out
   clear HA
   simp only [qqx.l0] at H
   by_cases c2 : x3_1 < (a0.size : Int)
   ·rw [if_pos c2] at H
    have c2b0 : decide (x3_1 < (a0.size : Int)) = true := decide_eq_true c2
    clear c2
    by_cases c3 : 0 ≤ x3_1
    ·rw [if_pos c3] at H
     have c3b0 : decide (0 ≤ x3_1) = true := decide_eq_true c3
     clear c3
     replace H := Option.bind_eq_some_iff.mp H
     obtain ⟨t101,A50,H⟩ := H
     replace H : (if t101 = true then (qqx.l0 k1 a0 (wrap64 (x3_1 + 1))) else ((qqj.f (bt a0 x3_1)).bind fun t102 => (if t102 = true then (qqx.l0 k1 a0 (wrap64 (x3_1 + 1))) else (if (bt a0 x3_1) = 95 then (qqx.l0 k1 a0 (wrap64 (x3_1 + 1))) else (if (bt a0 x3_1) = 45 then (qqx.l0 k1 a0 (wrap64 (x3_1 + 1))) else (if (bt a0 x3_1) = 46 then (qqx.l0 k1 a0 (wrap64 (x3_1 + 1))) else (some false))))))) = some r := H
     have A5 := qq.mk A50
     clear A50
     by_cases c6 : t101 = true
     ·subst c6
      have H1 : (qqx.l0 k1 a0 (wrap64 (x3_1 + 1))) = some r := by rw [if_pos rfl] at H;exact H
      clear H
      have H := H1
      clear H1
      have H' := qq.mk H
      clear H
      have p4 : 0 ≤ (x3_1 : Int) := of_decide_eq_true (by assumption)
      have q4 : x3_1 < (a0.size : Int) := of_decide_eq_true (by assumption)
      have hx4 := bt_at a0 x3_1
      replace p4 := eq_true p4
      replace q4 := eq_true q4
      go_wp2_with (first | ((with_reducible refine jv (f := 66) rfl ?_);refine goesL_ (some 13) rfl rfl Try.func66 (by kernel_rfl) rfl #[.int .u8 (bt a0 x3_1)] rfl (by (try simp only [List.map_toArray,List.map_cons,List.map_nil]);first | done | rfl | (simp only [List.length_drop,List.length_take];rfl)) ?_;(with_reducible refine (qqk.calls (bt a0 x3_1) true _ A5.out).mono ?_);rintro e w' ⟨rfl,⟨nd,rfl⟩⟩;refine ⟨_,rfl,?_⟩))
      go_roundg k1
      case measure => have := HK1.out;omega
      case rel => exact ⟨(wrap64 (x3_1 + 1)),(by first | rfl | (simp;done) | (simp [*];done)),H',⟨by have := HK1.out;omega⟩,by repeat (first | exact Drawn0.refl _ | apply Drawn0.step)⟩
     ·replace c6 := Bool.eq_false_iff.mpr c6
      subst c6
      have H1 : ((qqj.f (bt a0 x3_1)).bind fun t102 => (if t102 = true then (qqx.l0 k1 a0 (wrap64 (x3_1 + 1))) else (if (bt a0 x3_1) = 95 then (qqx.l0 k1 a0 (wrap64 (x3_1 + 1))) else (if (bt a0 x3_1) = 45 then (qqx.l0 k1 a0 (wrap64 (x3_1 + 1))) else (if (bt a0 x3_1) = 46 then (qqx.l0 k1 a0 (wrap64 (x3_1 + 1))) else (some false)))))) = some r := by rw [if_neg (show ¬ (false = true) by decide)] at H;exact H
      clear H
      have H := H1
      clear H1
      replace H := Option.bind_eq_some_iff.mp H
      obtain ⟨t102,A80,H⟩ := H
      replace H : (if t102 = true then (qqx.l0 k1 a0 (wrap64 (x3_1 + 1))) else (if (bt a0 x3_1) = 95 then (qqx.l0 k1 a0 (wrap64 (x3_1 + 1))) else (if (bt a0 x3_1) = 45 then (qqx.l0 k1 a0 (wrap64 (x3_1 + 1))) else (if (bt a0 x3_1) = 46 then (qqx.l0 k1 a0 (wrap64 (x3_1 + 1))) else (some false))))) = some r := H
      have A8 := qq.mk A80
      clear A80
      by_cases c9 : t102 = true
      ·subst c9
       have H1 : (qqx.l0 k1 a0 (wrap64 (x3_1 + 1))) = some r := by rw [if_pos rfl] at H;exact H
       clear H
       have H := H1
       clear H1
       have H' := qq.mk H
       clear H
       have p4 : 0 ≤ (x3_1 : Int) := of_decide_eq_true (by assumption)
       have q4 : x3_1 < (a0.size : Int) := of_decide_eq_true (by assumption)
       have hx4 := bt_at a0 x3_1
       replace p4 := eq_true p4
       replace q4 := eq_true q4
       go_wp2_with (first | ((with_reducible refine jv (f := 66) rfl ?_);refine goesL_ (some 13) rfl rfl Try.func66 (by kernel_rfl) rfl #[.int .u8 (bt a0 x3_1)] rfl (by (try simp only [List.map_toArray,List.map_cons,List.map_nil]);first | done | rfl | (simp only [List.length_drop,List.length_take];rfl)) ?_;(with_reducible refine (qqk.calls (bt a0 x3_1) false _ A5.out).mono ?_);rintro e w' ⟨rfl,⟨nd,rfl⟩⟩;refine ⟨_,rfl,?_⟩;have p7 : 0 ≤ (x3_1 : Int) := of_decide_eq_true (by assumption);have q7 : x3_1 < (a0.size : Int) := of_decide_eq_true (by assumption);have hx7 := bt_at a0 x3_1;replace p7 := eq_true p7;replace q7 := eq_true q7) | (go_at_call 67;(with_reducible refine (qqj.calls (bt a0 x3_1) true _ A8.out).mono ?_);rintro e w' ⟨rfl,⟨nd,rfl⟩⟩))
       go_roundg k1
       case measure => have := HK1.out;omega
       case rel => exact ⟨(wrap64 (x3_1 + 1)),(by first | rfl | (simp;done) | (simp [*];done)),H',⟨by have := HK1.out;omega⟩,by repeat (first | exact Drawn0.refl _ | apply Drawn0.step)⟩
      ·replace c9 := Bool.eq_false_iff.mpr c9
       subst c9
       have H1 : (if (bt a0 x3_1) = 95 then (qqx.l0 k1 a0 (wrap64 (x3_1 + 1))) else (if (bt a0 x3_1) = 45 then (qqx.l0 k1 a0 (wrap64 (x3_1 + 1))) else (if (bt a0 x3_1) = 46 then (qqx.l0 k1 a0 (wrap64 (x3_1 + 1))) else (some false)))) = some r := by rw [if_neg (show ¬ (false = true) by decide)] at H;exact H
       clear H
       have H := H1
       clear H1
       by_cases c11 : (bt a0 x3_1) = 95
       ·rw [if_pos c11] at H
        have c11b0 : ((bt a0 x3_1) == 95) = true := beq_iff_eq.mpr c11
        have c11b1 : ((bt a0 x3_1) != 95) = false := bne_eq_false_iff_eq.mpr c11
        clear c11
        have H' := qq.mk H
        clear H
        have p4 : 0 ≤ (x3_1 : Int) := of_decide_eq_true (by assumption)
        have q4 : x3_1 < (a0.size : Int) := of_decide_eq_true (by assumption)
        have hx4 := bt_at a0 x3_1
        replace p4 := eq_true p4
        replace q4 := eq_true q4
        go_wp2_with (first | ((with_reducible refine jv (f := 66) rfl ?_);refine goesL_ (some 13) rfl rfl Try.func66 (by kernel_rfl) rfl #[.int .u8 (bt a0 x3_1)] rfl (by (try simp only [List.map_toArray,List.map_cons,List.map_nil]);first | done | rfl | (simp only [List.length_drop,List.length_take];rfl)) ?_;(with_reducible refine (qqk.calls (bt a0 x3_1) false _ A5.out).mono ?_);rintro e w' ⟨rfl,⟨nd,rfl⟩⟩;refine ⟨_,rfl,?_⟩;have p7 : 0 ≤ (x3_1 : Int) := of_decide_eq_true (by assumption);have q7 : x3_1 < (a0.size : Int) := of_decide_eq_true (by assumption);have hx7 := bt_at a0 x3_1;replace p7 := eq_true p7;replace q7 := eq_true q7) | (go_at_call 67;(with_reducible refine (qqj.calls (bt a0 x3_1) false _ A8.out).mono ?_);rintro e w' ⟨rfl,⟨nd,rfl⟩⟩;have p10 : 0 ≤ (x3_1 : Int) := of_decide_eq_true (by assumption);have q10 : x3_1 < (a0.size : Int) := of_decide_eq_true (by assumption);have hx10 := bt_at a0 x3_1;replace p10 := eq_true p10;replace q10 := eq_true q10))
        go_roundg k1
        case measure => have := HK1.out;omega
        case rel => exact ⟨(wrap64 (x3_1 + 1)),(by first | rfl | (simp;done) | (simp [*];done)),H',⟨by have := HK1.out;omega⟩,by repeat (first | exact Drawn0.refl _ | apply Drawn0.step)⟩
       ·rw [if_neg c11] at H
        have c11b0 : ((bt a0 x3_1) == 95) = false := beq_eq_false_iff_ne.mpr c11
        have c11b1 : ((bt a0 x3_1) != 95) = true := bne_iff_ne.mpr c11
        by_cases c13 : (bt a0 x3_1) = 45
        ·rw [if_pos c13] at H
         have c13b0 : ((bt a0 x3_1) == 45) = true := beq_iff_eq.mpr c13
         have c13b1 : ((bt a0 x3_1) != 45) = false := bne_eq_false_iff_eq.mpr c13
         clear c13
         have H' := qq.mk H
         clear H
         have p4 : 0 ≤ (x3_1 : Int) := of_decide_eq_true (by assumption)
         have q4 : x3_1 < (a0.size : Int) := of_decide_eq_true (by assumption)
         have hx4 := bt_at a0 x3_1
         replace p4 := eq_true p4
         replace q4 := eq_true q4
         go_wp2_with (first | ((with_reducible refine jv (f := 66) rfl ?_);refine goesL_ (some 13) rfl rfl Try.func66 (by kernel_rfl) rfl #[.int .u8 (bt a0 x3_1)] rfl (by (try simp only [List.map_toArray,List.map_cons,List.map_nil]);first | done | rfl | (simp only [List.length_drop,List.length_take];rfl)) ?_;(with_reducible refine (qqk.calls (bt a0 x3_1) false _ A5.out).mono ?_);rintro e w' ⟨rfl,⟨nd,rfl⟩⟩;refine ⟨_,rfl,?_⟩;have p7 : 0 ≤ (x3_1 : Int) := of_decide_eq_true (by assumption);have q7 : x3_1 < (a0.size : Int) := of_decide_eq_true (by assumption);have hx7 := bt_at a0 x3_1;replace p7 := eq_true p7;replace q7 := eq_true q7) | (go_at_call 67;(with_reducible refine (qqj.calls (bt a0 x3_1) false _ A8.out).mono ?_);rintro e w' ⟨rfl,⟨nd,rfl⟩⟩;have p10 : 0 ≤ (x3_1 : Int) := of_decide_eq_true (by assumption);have q10 : x3_1 < (a0.size : Int) := of_decide_eq_true (by assumption);have hx10 := bt_at a0 x3_1;replace p10 := eq_true p10;replace q10 := eq_true q10;have p12 : 0 ≤ (x3_1 : Int) := of_decide_eq_true (by assumption);have q12 : x3_1 < (a0.size : Int) := of_decide_eq_true (by assumption);have hx12 := bt_at a0 x3_1;replace p12 := eq_true p12;replace q12 := eq_true q12))
         go_roundg k1
         case measure => have := HK1.out;omega
         case rel => exact ⟨(wrap64 (x3_1 + 1)),(by first | rfl | (simp;done) | (simp [*];done)),H',⟨by have := HK1.out;omega⟩,by repeat (first | exact Drawn0.refl _ | apply Drawn0.step)⟩
        ·rw [if_neg c13] at H
         have c13b0 : ((bt a0 x3_1) == 45) = false := beq_eq_false_iff_ne.mpr c13
         have c13b1 : ((bt a0 x3_1) != 45) = true := bne_iff_ne.mpr c13
         by_cases c15 : (bt a0 x3_1) = 46
         ·rw [if_pos c15] at H
          have c15b0 : ((bt a0 x3_1) == 46) = true := beq_iff_eq.mpr c15
          have c15b1 : ((bt a0 x3_1) != 46) = false := bne_eq_false_iff_eq.mpr c15
          clear c15
          have H' := qq.mk H
          clear H
          have p4 : 0 ≤ (x3_1 : Int) := of_decide_eq_true (by assumption)
          have q4 : x3_1 < (a0.size : Int) := of_decide_eq_true (by assumption)
          have hx4 := bt_at a0 x3_1
          replace p4 := eq_true p4
          replace q4 := eq_true q4
          go_wp2_with (first | ((with_reducible refine jv (f := 66) rfl ?_);refine goesL_ (some 13) rfl rfl Try.func66 (by kernel_rfl) rfl #[.int .u8 (bt a0 x3_1)] rfl (by (try simp only [List.map_toArray,List.map_cons,List.map_nil]);first | done | rfl | (simp only [List.length_drop,List.length_take];rfl)) ?_;(with_reducible refine (qqk.calls (bt a0 x3_1) false _ A5.out).mono ?_);rintro e w' ⟨rfl,⟨nd,rfl⟩⟩;refine ⟨_,rfl,?_⟩;have p7 : 0 ≤ (x3_1 : Int) := of_decide_eq_true (by assumption);have q7 : x3_1 < (a0.size : Int) := of_decide_eq_true (by assumption);have hx7 := bt_at a0 x3_1;replace p7 := eq_true p7;replace q7 := eq_true q7) | (go_at_call 67;(with_reducible refine (qqj.calls (bt a0 x3_1) false _ A8.out).mono ?_);rintro e w' ⟨rfl,⟨nd,rfl⟩⟩;have p10 : 0 ≤ (x3_1 : Int) := of_decide_eq_true (by assumption);have q10 : x3_1 < (a0.size : Int) := of_decide_eq_true (by assumption);have hx10 := bt_at a0 x3_1;replace p10 := eq_true p10;replace q10 := eq_true q10;have p12 : 0 ≤ (x3_1 : Int) := of_decide_eq_true (by assumption);have q12 : x3_1 < (a0.size : Int) := of_decide_eq_true (by assumption);have hx12 := bt_at a0 x3_1;replace p12 := eq_true p12;replace q12 := eq_true q12;have p14 : 0 ≤ (x3_1 : Int) := of_decide_eq_true (by assumption);have q14 : x3_1 < (a0.size : Int) := of_decide_eq_true (by assumption);have hx14 := bt_at a0 x3_1;replace p14 := eq_true p14;replace q14 := eq_true q14))
          go_roundg k1
          case measure => have := HK1.out;omega
          case rel => exact ⟨(wrap64 (x3_1 + 1)),(by first | rfl | (simp;done) | (simp [*];done)),H',⟨by have := HK1.out;omega⟩,by repeat (first | exact Drawn0.refl _ | apply Drawn0.step)⟩
         ·rw [if_neg c15] at H
          have c15b0 : ((bt a0 x3_1) == 46) = false := beq_eq_false_iff_ne.mpr c15
          have c15b1 : ((bt a0 x3_1) != 46) = true := bne_iff_ne.mpr c15
          obtain rfl := Option.some.inj H
          have p4 : 0 ≤ (x3_1 : Int) := of_decide_eq_true (by assumption)
          have q4 : x3_1 < (a0.size : Int) := of_decide_eq_true (by assumption)
          have hx4 := bt_at a0 x3_1
          replace p4 := eq_true p4
          replace q4 := eq_true q4
          go_wp2_with (first | ((with_reducible refine jv (f := 66) rfl ?_);refine goesL_ (some 13) rfl rfl Try.func66 (by kernel_rfl) rfl #[.int .u8 (bt a0 x3_1)] rfl (by (try simp only [List.map_toArray,List.map_cons,List.map_nil]);first | done | rfl | (simp only [List.length_drop,List.length_take];rfl)) ?_;(with_reducible refine (qqk.calls (bt a0 x3_1) false _ A5.out).mono ?_);rintro e w' ⟨rfl,⟨nd,rfl⟩⟩;refine ⟨_,rfl,?_⟩;have p7 : 0 ≤ (x3_1 : Int) := of_decide_eq_true (by assumption);have q7 : x3_1 < (a0.size : Int) := of_decide_eq_true (by assumption);have hx7 := bt_at a0 x3_1;replace p7 := eq_true p7;replace q7 := eq_true q7) | (go_at_call 67;(with_reducible refine (qqj.calls (bt a0 x3_1) false _ A8.out).mono ?_);rintro e w' ⟨rfl,⟨nd,rfl⟩⟩;have p10 : 0 ≤ (x3_1 : Int) := of_decide_eq_true (by assumption);have q10 : x3_1 < (a0.size : Int) := of_decide_eq_true (by assumption);have hx10 := bt_at a0 x3_1;replace p10 := eq_true p10;replace q10 := eq_true q10;have p12 : 0 ≤ (x3_1 : Int) := of_decide_eq_true (by assumption);have q12 : x3_1 < (a0.size : Int) := of_decide_eq_true (by assumption);have hx12 := bt_at a0 x3_1;replace p12 := eq_true p12;replace q12 := eq_true q12;have p14 : 0 ≤ (x3_1 : Int) := of_decide_eq_true (by assumption);have q14 : x3_1 < (a0.size : Int) := of_decide_eq_true (by assumption);have hx14 := bt_at a0 x3_1;replace p14 := eq_true p14;replace q14 := eq_true q14))
          go_ret
          exact ⟨by first | rfl | (simp;done) | (simp [*];done),by repeat (first | exact Drawn0.refl _ | apply Drawn0.step)⟩
    ·rw [if_neg c3] at H
     exact absurd H (by simp)
   ·rw [if_neg c2] at H
    have c2b0 : decide (x3_1 < (a0.size : Int)) = false := decide_eq_false c2
    clear c2
    by_cases c16 : (a0.size : Int) ≥ 1
    ·rw [if_pos c16] at H
     have c16b0 : decide (1 ≤ (a0.size : Int)) = true := decide_eq_true c16
     have c16b1 : decide (1 ≤ a0.size) = true := decide_eq_true (by omega)
     clear c16
     obtain rfl := Option.some.inj H
     go_wp2
     go_ret
     exact ⟨by first | rfl | (simp;done) | (simp [*];done),by repeat (first | exact Drawn0.refl _ | apply Drawn0.step)⟩
    ·rw [if_neg c16] at H
     have c16b0 : decide (1 ≤ (a0.size : Int)) = false := decide_eq_false c16
     have c16b1 : decide (1 ≤ a0.size) = false := decide_eq_false (by omega)
     clear c16
     obtain rfl := Option.some.inj H
     go_wp2
     go_ret
     exact ⟨by first | rfl | (simp;done) | (simp [*];done),by repeat (first | exact Drawn0.refl _ | apply Drawn0.step)⟩
def qqq.f (a0 : Int) (a1 : Int) : Option (Int) := if a0 < a1 then (some (-1)) else (if a0 > a1 then (some 1) else (some 0))
set_option maxHeartbeats 8000000 in
set_option maxRecDepth 100000 in
theorem qqq.calls (a0 : Int) (a1 : Int) (r : Int) (w : World) (h : qqq.f a0 a1 = some r) :
  Calls Try.prog 68 #[.int .i64 a0,.int .i64 a1] w fun e w' => e = .returned (.int .i64 r) ∧ Drawn0 w w' := by
 have H : (if a0 < a1 then (some (-1)) else (if a0 > a1 then (some 1) else (some 0))) = some r := h
 clear h
 by_cases c3 : a0 < a1
 ·rw [if_pos c3] at H
  have c3b0 : decide (a0 < a1) = true := decide_eq_true c3
  clear c3
  obtain rfl := Option.some.inj H
  go_enter Try.func68,Try.ntmps68
  go_wp2
  go_ret
  exact ⟨by first | rfl | (simp;done) | (simp [*];done),by repeat (first | exact Drawn0.refl _ | apply Drawn0.step)⟩
 ·rw [if_neg c3] at H
  have c3b0 : decide (a0 < a1) = false := decide_eq_false c3
  clear c3
  by_cases c4 : a0 > a1
  ·rw [if_pos c4] at H
   have c4b0 : decide (a1 < a0) = true := decide_eq_true c4
   clear c4
   obtain rfl := Option.some.inj H
   go_enter Try.func68,Try.ntmps68
   go_wp2
   go_ret
   exact ⟨by first | rfl | (simp;done) | (simp [*];done),by repeat (first | exact Drawn0.refl _ | apply Drawn0.step)⟩
  ·rw [if_neg c4] at H
   have c4b0 : decide (a1 < a0) = false := decide_eq_false c4
   clear c4
   obtain rfl := Option.some.inj H
   go_enter Try.func68,Try.ntmps68
   go_wp2
   go_ret
   exact ⟨by first | rfl | (simp;done) | (simp [*];done),by repeat (first | exact Drawn0.refl _ | apply Drawn0.step)⟩
mutual
def qqz.l0 : Nat → ByteArray → ByteArray → Int → Option (Int)
 | 0,_,_,_ => none
 | k + 1,x0,x1,x5 => if x5 < (x0.size : Int) then (qqz.j1 k x0 x1 x5 (decide (x5 < (x1.size : Int)))) else (qqz.j1 k x0 x1 x5 false)
def qqz.j1 : Nat → ByteArray → ByteArray → Int → Bool → Option (Int)
 | 0,_,_,_,_ => none
 | k + 1,x0,x1,x5,x15 => if x15 = true then (if 0 ≤ x5 then (if x5 < (x0.size : Int) then (if x5 < (x1.size : Int) then (if (bt x0 x5) = (bt x1 x5) then (qqz.l0 k x0 x1 (wrap64 (x5 + 1))) else ((qqq.f (wrap64 (bt x0 x5)) (wrap64 (bt x1 x5))).bind fun t101 => (some t101))) else (none)) else (none)) else (none)) else ((qqq.f (x0.size : Int) (x1.size : Int)).bind fun t102 => (some t102))
end
def qqz.f (k : Nat) (a0 : ByteArray) (a1 : ByteArray) : Option (Int) := qqz.l0 k a0 a1 0
set_option maxHeartbeats 8000000 in
set_option maxRecDepth 100000 in
theorem qqz.calls (k : Nat) (a0 : ByteArray) (a1 : ByteArray) (r : Int) (w : World) (h : qqz.f k a0 a1 = some r) :
  Calls Try.prog 38 #[.string a0,.string a1] w fun e w' => e = .returned (.int .i64 r) ∧ Drawn0 w w' := by
 have H : (qqz.l0 k a0 a1 0) = some r := h
 clear h
 have H' := qq.mk H
 clear H
 go_enter Try.func38,Try.ntmps38
 go_wp2
 repeat (go_quiet (fail);try go_wp2)
 go_loopg [5] k (fun kq v5 w' => ∃ (x5_1 : Int),v5 = .int .i64 x5_1 ∧ qq (qqz.l0 kq a0 a1 x5_1 = some r) ∧ qq (kq ≤ k) ∧ Drawn0 w w')
 case atStart => exact ⟨(0),(by first | rfl | (simp;done) | (simp [*];done)),H',⟨Nat.le_refl _⟩,by repeat (first | exact Drawn0.refl _ | apply Drawn0.step)⟩
 case round =>
  clear H'
  try clear p2
  obtain ⟨x5_1,rfl,HA,HK1,⟨m1,rfl⟩⟩ := hrel
  cases gk with
  | zero => exact absurd HA.out (by simp [qqz.l0])
  | succ k1 =>
   have H := HA.out
   clear HA
   simp only [qqz.l0] at H
   have HC3 := qq.mk H
   clear H
   go_upto_region 2 with (fail)
   repeat (go_quiet (fail);go_upto_region 2 with (fail))
   go_cut [15] (fun v15 wc => ∃ (kq : Nat) (x15_2 : Bool),v15 = .bool x15_2 ∧ qq (qqz.j1 kq a0 a1 x5_1 x15_2 = some r) ∧ qq (kq ≤ k1) ∧ Drawn0 w wc)
   case first =>
    have H := HC3.out
    clear HC3
    by_cases c4 : x5_1 < (a0.size : Int)
    ·rw [if_pos c4] at H
     have c4b0 : decide (x5_1 < (a0.size : Int)) = true := decide_eq_true c4
     clear c4
     (first | rw [c4b0] | (simp only [i64_w,i32_w];rw [c4b0]) | skip)
     have H' := qq.mk H
     clear H
     go_wp2
     repeat (go_quiet (fail);try go_wp2)
     go_meet
     case rel => exact ⟨_,(decide (x5_1 < (a1.size : Int))),(by first | rfl | (simp;done) | (simp [*];done)),H',⟨by have := HK1.out;first | omega | exact Nat.le_refl _⟩,by repeat (first | exact Drawn0.refl _ | apply Drawn0.step)⟩
    ·rw [if_neg c4] at H
     have c4b0 : decide (x5_1 < (a0.size : Int)) = false := decide_eq_false c4
     clear c4
     (first | rw [c4b0] | (simp only [i64_w,i32_w];rw [c4b0]) | skip)
     have H' := qq.mk H
     clear H
     go_wp2
     repeat (go_quiet (fail);try go_wp2)
     go_meet
     case rel => exact ⟨_,(false),(by first | rfl | (simp;done) | (simp [*];done)),H',⟨by have := HK1.out;first | omega | exact Nat.le_refl _⟩,by repeat (first | exact Drawn0.refl _ | apply Drawn0.step)⟩
   case rest =>
    clear HC3
    try clear p2
    try clear c3
    try clear c4
    try clear c4b0
    try clear p2
    obtain ⟨kq,x15_2,rfl,HA,HJ2,⟨mc2,rfl⟩⟩ := hcut
    cases kq with
    | zero => exact absurd HA.out (by simp [qqz.j1])
    | succ kj2 =>
     have H := HA.out
     clear HA
     simp only [qqz.j1] at H
     by_cases c5 : x15_2 = true
     ·subst c5
      have H1 : (if 0 ≤ x5_1 then (if x5_1 < (a0.size : Int) then (if x5_1 < (a1.size : Int) then (if (bt a0 x5_1) = (bt a1 x5_1) then (qqz.l0 kj2 a0 a1 (wrap64 (x5_1 + 1))) else ((qqq.f (wrap64 (bt a0 x5_1)) (wrap64 (bt a1 x5_1))).bind fun t101 => (some t101))) else (none)) else (none)) else (none)) = some r := by rw [if_pos rfl] at H;exact H
      clear H
      have H := H1
      clear H1
      by_cases c6 : 0 ≤ x5_1
      ·rw [if_pos c6] at H
       have c6b0 : decide (0 ≤ x5_1) = true := decide_eq_true c6
       clear c6
       by_cases c7 : x5_1 < (a0.size : Int)
       ·rw [if_pos c7] at H
        have c7b0 : decide (x5_1 < (a0.size : Int)) = true := decide_eq_true c7
        clear c7
        by_cases c9 : x5_1 < (a1.size : Int)
        ·rw [if_pos c9] at H
         have c9b0 : decide (x5_1 < (a1.size : Int)) = true := decide_eq_true c9
         clear c9
         by_cases c11 : (bt a0 x5_1) = (bt a1 x5_1)
         ·rw [if_pos c11] at H
          have c11b0 : ((bt a0 x5_1) == (bt a1 x5_1)) = true := beq_iff_eq.mpr c11
          have c11b1 : ((bt a0 x5_1) != (bt a1 x5_1)) = false := bne_eq_false_iff_eq.mpr c11
          clear c11
          have H' := qq.mk H
          clear H
          have p8 : 0 ≤ (x5_1 : Int) := of_decide_eq_true (by assumption)
          have q8 : x5_1 < (a0.size : Int) := of_decide_eq_true (by assumption)
          have hx8 := bt_at a0 x5_1
          replace p8 := eq_true p8
          replace q8 := eq_true q8
          have p10 : 0 ≤ (x5_1 : Int) := of_decide_eq_true (by assumption)
          have q10 : x5_1 < (a1.size : Int) := of_decide_eq_true (by assumption)
          have hx10 := bt_at a1 x5_1
          replace p10 := eq_true p10
          replace q10 := eq_true q10
          go_wp2
          repeat (go_quiet (fail);try go_wp2)
          go_roundg kj2
          case measure => have := HK1.out;have := HJ2.out;omega
          case rel => exact ⟨(wrap64 (x5_1 + 1)),(by first | rfl | (simp;done) | (simp [*];done)),H',⟨by have := HK1.out;have := HJ2.out;omega⟩,by repeat (first | exact Drawn0.refl _ | apply Drawn0.step)⟩
         ·rw [if_neg c11] at H
          have c11b0 : ((bt a0 x5_1) == (bt a1 x5_1)) = false := beq_eq_false_iff_ne.mpr c11
          have c11b1 : ((bt a0 x5_1) != (bt a1 x5_1)) = true := bne_iff_ne.mpr c11
          replace H := Option.bind_eq_some_iff.mp H
          obtain ⟨t101,A140,H⟩ := H
          replace H : (some t101) = some r := H
          have A14 := qq.mk A140
          clear A140
          obtain rfl := Option.some.inj H
          have p8 : 0 ≤ (x5_1 : Int) := of_decide_eq_true (by assumption)
          have q8 : x5_1 < (a0.size : Int) := of_decide_eq_true (by assumption)
          have hx8 := bt_at a0 x5_1
          replace p8 := eq_true p8
          replace q8 := eq_true q8
          have p10 : 0 ≤ (x5_1 : Int) := of_decide_eq_true (by assumption)
          have q10 : x5_1 < (a1.size : Int) := of_decide_eq_true (by assumption)
          have hx10 := bt_at a1 x5_1
          replace p10 := eq_true p10
          replace q10 := eq_true q10
          have p12 : 0 ≤ (x5_1 : Int) := of_decide_eq_true (by assumption)
          have q12 : x5_1 < (a0.size : Int) := of_decide_eq_true (by assumption)
          have hx12 := bt_at a0 x5_1
          replace p12 := eq_true p12
          replace q12 := eq_true q12
          have p13 : 0 ≤ (x5_1 : Int) := of_decide_eq_true (by assumption)
          have q13 : x5_1 < (a1.size : Int) := of_decide_eq_true (by assumption)
          have hx13 := bt_at a1 x5_1
          replace p13 := eq_true p13
          replace q13 := eq_true q13
          go_wp2_with (first | (go_at_call 68;(with_reducible refine (qqq.calls (wrap64 (bt a0 x5_1)) (wrap64 (bt a1 x5_1)) t101 _ A14.out).mono ?_);rintro e w' ⟨rfl,⟨nd,rfl⟩⟩;(try first | exact ⟨rfl,_,World.drewN_drewN _ _ _⟩ | exact ⟨rfl,_,Eq.trans (World.drewN_drewN _ _ _) (congrArg (World.drewN _) (Nat.add_assoc _ _ _))⟩)))
          repeat (go_quiet (first | (go_at_call 68;(with_reducible refine (qqq.calls (wrap64 (bt a0 x5_1)) (wrap64 (bt a1 x5_1)) t101 _ A14.out).mono ?_);rintro e w' ⟨rfl,⟨nd,rfl⟩⟩;(try first | exact ⟨rfl,_,World.drewN_drewN _ _ _⟩ | exact ⟨rfl,_,Eq.trans (World.drewN_drewN _ _ _) (congrArg (World.drewN _) (Nat.add_assoc _ _ _))⟩)));try go_wp2_with (first | (go_at_call 68;(with_reducible refine (qqq.calls (wrap64 (bt a0 x5_1)) (wrap64 (bt a1 x5_1)) t101 _ A14.out).mono ?_);rintro e w' ⟨rfl,⟨nd,rfl⟩⟩;(try first | exact ⟨rfl,_,World.drewN_drewN _ _ _⟩ | exact ⟨rfl,_,Eq.trans (World.drewN_drewN _ _ _) (congrArg (World.drewN _) (Nat.add_assoc _ _ _))⟩))))
          go_ret
          exact ⟨by first | rfl | (simp;done) | (simp [*];done),by repeat (first | exact Drawn0.refl _ | apply Drawn0.step)⟩
        ·rw [if_neg c9] at H
         exact absurd H (by simp)
       ·rw [if_neg c7] at H
        exact absurd H (by simp)
      ·rw [if_neg c6] at H
       exact absurd H (by simp)
     ·replace c5 := Bool.eq_false_iff.mpr c5
      subst c5
      have H1 : ((qqq.f (a0.size : Int) (a1.size : Int)).bind fun t102 => (some t102)) = some r := by rw [if_neg (show ¬ (false = true) by decide)] at H;exact H
      clear H
      have H := H1
      clear H1
      replace H := Option.bind_eq_some_iff.mp H
      obtain ⟨t102,A150,H⟩ := H
      replace H : (some t102) = some r := H
      have A15 := qq.mk A150
      clear A150
      obtain rfl := Option.some.inj H
      go_wp2_with (first | (go_at_call 68;(with_reducible refine (qqq.calls (a0.size : Int) (a1.size : Int) t102 _ A15.out).mono ?_);rintro e w' ⟨rfl,⟨nd,rfl⟩⟩;(try first | exact ⟨rfl,_,World.drewN_drewN _ _ _⟩ | exact ⟨rfl,_,Eq.trans (World.drewN_drewN _ _ _) (congrArg (World.drewN _) (Nat.add_assoc _ _ _))⟩)))
      repeat (go_quiet (first | (go_at_call 68;(with_reducible refine (qqq.calls (a0.size : Int) (a1.size : Int) t102 _ A15.out).mono ?_);rintro e w' ⟨rfl,⟨nd,rfl⟩⟩;(try first | exact ⟨rfl,_,World.drewN_drewN _ _ _⟩ | exact ⟨rfl,_,Eq.trans (World.drewN_drewN _ _ _) (congrArg (World.drewN _) (Nat.add_assoc _ _ _))⟩)));try go_wp2_with (first | (go_at_call 68;(with_reducible refine (qqq.calls (a0.size : Int) (a1.size : Int) t102 _ A15.out).mono ?_);rintro e w' ⟨rfl,⟨nd,rfl⟩⟩;(try first | exact ⟨rfl,_,World.drewN_drewN _ _ _⟩ | exact ⟨rfl,_,Eq.trans (World.drewN_drewN _ _ _) (congrArg (World.drewN _) (Nat.add_assoc _ _ _))⟩))))
      go_ret
      exact ⟨by first | rfl | (simp;done) | (simp [*];done),by repeat (first | exact Drawn0.refl _ | apply Drawn0.step)⟩
end Go.Proofs.Ytakocdkcfjkmdaa.Pr
namespace Go.Proofs.Ytakocdkcfjkmdaa.Pr
open Go.RowKit Go.Proofs.YtakocdkcfjkmdaaW.PrintWords Go.Proofs.YtakocdkcfjkmdaaW.PrintLast Go.Proofs.YtakocdkcfjkmdaaW.PrintMore
attribute [local go_sem] max2_int min2_int max_two min_two max_three min_three max_four min_four
set_option linter.unusedVariables false
set_option linter.unusedSimpArgs false
def qqv.l0 : Nat → Int → Int → Int → Int → Int → Option (Int)
 | 0,_,_,_,_,_ => none
 | k + 1,x0,x1,x2,x7,x8 => if x8 ≥ 0 then (if x2 = 0 then (none) else (if 0 ≤ (IntKind.u64.wrap (x8)) then (if (Go.bits .and .i64 (shr .i64 x1 (IntKind.u64.wrap (x8))) 1) = 1 then (qqv.l0 k x0 x1 x2 (Int.tmod (wrap64 ((Int.tmod (wrap64 (x7 * x7)) x2) * x0)) x2) (wrap64 (x8 - 1))) else (qqv.l0 k x0 x1 x2 (Int.tmod (wrap64 (x7 * x7)) x2) (wrap64 (x8 - 1)))) else (none))) else (some x7)
def qqv.f (k : Nat) (a0 : Int) (a1 : Int) (a2 : Int) : Option (Int) := qqv.l0 k a0 a1 a2 1 40
set_option maxHeartbeats 8000000 in
set_option maxRecDepth 100000 in
theorem qqv.calls (k : Nat) (a0 : Int) (a1 : Int) (a2 : Int) (r : Int) (w : World) (h : qqv.f k a0 a1 a2 = some r) :
  Calls Try.prog 69 #[.int .i64 a0,.int .i64 a1,.int .i64 a2] w fun e w' => e = .returned (.int .i64 r) ∧ Drawn0 w w' := by
 have H : (qqv.l0 k a0 a1 a2 1 40) = some r := h
 clear h
 have H' := qq.mk H
 clear H
 go_enter Try.func69,Try.ntmps69
 go_wp2
 go_loopg [7,8] k (fun kq v7 v8 w' => ∃ (x7_1 : Int) (x8_1 : Int),v7 = .int .i64 x7_1 ∧ v8 = .int .i64 x8_1 ∧ qq (qqv.l0 kq a0 a1 a2 x7_1 x8_1 = some r) ∧ qq (kq ≤ k) ∧ Drawn0 w w')
 case atStart => exact ⟨(1),(40),(by first | rfl | (simp;done) | (simp [*];done)),(by first | rfl | (simp;done) | (simp [*];done)),H',⟨Nat.le_refl _⟩,by repeat (first | exact Drawn0.refl _ | apply Drawn0.step)⟩
 case round =>
  clear H'
  try clear p2
  obtain ⟨x7_1,x8_1,rfl,rfl,HA,HK1,⟨m1,rfl⟩⟩ := hrel
  cases gk with
  | zero => exact absurd HA.out (by simp [qqv.l0])
  | succ k1 =>
   have H := HA.out
   clear HA
   simp only [qqv.l0] at H
   by_cases c4 : x8_1 ≥ 0
   ·rw [if_pos c4] at H
    have c4b0 : decide (0 ≤ x8_1) = true := decide_eq_true c4
    clear c4
    by_cases c5 : a2 = 0
    ·rw [if_pos c5] at H
     exact absurd H (by simp)
    ·rw [if_neg c5] at H
     have c5b0 : (a2 == 0) = false := beq_eq_false_iff_ne.mpr c5
     have c5b1 : (a2 != 0) = true := bne_iff_ne.mpr c5
     obtain ⟨ji6,hji6⟩ : ∃ j_ : Int,(IntKind.u64.wrap (x8_1)) = j_ := ⟨_,rfl⟩
     replace H : (if 0 ≤ (ji6) then (if (Go.bits .and .i64 (shr .i64 a1 (ji6)) 1) = 1 then (qqv.l0 k1 a0 a1 a2 (Int.tmod (wrap64 ((Int.tmod (wrap64 (x7_1 * x7_1)) a2) * a0)) a2) (wrap64 (x8_1 - 1))) else (qqv.l0 k1 a0 a1 a2 (Int.tmod (wrap64 (x7_1 * x7_1)) a2) (wrap64 (x8_1 - 1)))) else (none)) = some r := by first | (rw [hji6] at H;exact H) | (simp only [hji6] at H ⊢;exact H)
     by_cases c7 : 0 ≤ (ji6)
     ·rw [if_pos c7] at H
      have c7b0 := eq_true c7
      have c7b1 : decide (0 ≤ (ji6)) = true := decide_eq_true c7
      clear c7
      obtain ⟨ji8,hji8⟩ : ∃ j_ : Int,(shr .i64 a1 (ji6)) = j_ := ⟨_,rfl⟩
      replace H : (if (Go.bits .and .i64 (ji8) 1) = 1 then (qqv.l0 k1 a0 a1 a2 (Int.tmod (wrap64 ((Int.tmod (wrap64 (x7_1 * x7_1)) a2) * a0)) a2) (wrap64 (x8_1 - 1))) else (qqv.l0 k1 a0 a1 a2 (Int.tmod (wrap64 (x7_1 * x7_1)) a2) (wrap64 (x8_1 - 1)))) = some r := by first | (rw [hji8] at H;exact H) | (simp only [hji8] at H ⊢;exact H)
      have hji8_ : (a1 / 2 ^ min (ji6).toNat 64) = ji8 := hji8
      have hji8z : (ji6) ≤ 64 → (a1 / 2 ^ (ji6).toNat) = ji8 := shr_small hji8
      by_cases c9 : (Go.bits .and .i64 (ji8) 1) = 1
      ·rw [if_pos c9] at H
       have c9b0 : ((Go.bits .and .i64 (ji8) 1) == 1) = true := beq_iff_eq.mpr c9
       have c9b1 : ((Go.bits .and .i64 (ji8) 1) != 1) = false := bne_eq_false_iff_eq.mpr c9
       clear c9
       have H' := qq.mk H
       clear H
       go_wp2
       go_roundg k1
       case measure => have := HK1.out;omega
       case rel => exact ⟨(Int.tmod (wrap64 ((Int.tmod (wrap64 (x7_1 * x7_1)) a2) * a0)) a2),(wrap64 (x8_1 - 1)),(by first | rfl | (simp;done) | (simp [*];done)),(by first | rfl | (simp;done) | (simp [*];done)),H',⟨by have := HK1.out;omega⟩,by repeat (first | exact Drawn0.refl _ | apply Drawn0.step)⟩
      ·rw [if_neg c9] at H
       have c9b0 : ((Go.bits .and .i64 (ji8) 1) == 1) = false := beq_eq_false_iff_ne.mpr c9
       have c9b1 : ((Go.bits .and .i64 (ji8) 1) != 1) = true := bne_iff_ne.mpr c9
       have H' := qq.mk H
       clear H
       go_wp2
       go_roundg k1
       case measure => have := HK1.out;omega
       case rel => exact ⟨(Int.tmod (wrap64 (x7_1 * x7_1)) a2),(wrap64 (x8_1 - 1)),(by first | rfl | (simp;done) | (simp [*];done)),(by first | rfl | (simp;done) | (simp [*];done)),H',⟨by have := HK1.out;omega⟩,by repeat (first | exact Drawn0.refl _ | apply Drawn0.step)⟩
     ·rw [if_neg c7] at H
      exact absurd H (by simp)
   ·rw [if_neg c4] at H
    have c4b0 : decide (0 ≤ x8_1) = false := decide_eq_false c4
    clear c4
    obtain rfl := Option.some.inj H
    go_wp2
    go_ret
    exact ⟨by first | rfl | (simp;done) | (simp [*];done),by repeat (first | exact Drawn0.refl _ | apply Drawn0.step)⟩
end Go.Proofs.Ytakocdkcfjkmdaa.Pr
namespace Go.Proofs.Ytakocdkcfjkmdaa.Pr
open Go.RowKit Go.Proofs.YtakocdkcfjkmdaaW.PrintWords Go.Proofs.YtakocdkcfjkmdaaW.PrintLast Go.Proofs.YtakocdkcfjkmdaaW.PrintMore
attribute [local go_sem] max2_int min2_int max_two min_two max_three min_three max_four min_four
set_option linter.unusedVariables false
set_option linter.unusedSimpArgs false
def qqw.f (k : Nat) (a0 : Int) : Option (Bool) := if a0 ≥ 2 then (if a0 < 2147483579 then ((qqv.f k a0 1073741789 2147483579).bind fun t101 => (some (t101 == 1))) else (some false)) else (some false)
set_option maxHeartbeats 8000000 in
set_option maxRecDepth 100000 in
theorem qqw.calls (k : Nat) (a0 : Int) (r : Bool) (w : World) (h : qqw.f k a0 = some r) :
  Calls Try.prog 39 #[.int .i64 a0] w fun e w' => e = .returned (.bool r) ∧ Drawn0 w w' := by
 have H : (if a0 ≥ 2 then (if a0 < 2147483579 then ((qqv.f k a0 1073741789 2147483579).bind fun t101 => (some (t101 == 1))) else (some false)) else (some false)) = some r := h
 clear h
 by_cases c2 : a0 ≥ 2
 ·rw [if_pos c2] at H
  have c2b0 : decide (2 ≤ a0) = true := decide_eq_true c2
  clear c2
  by_cases c3 : a0 < 2147483579
  ·rw [if_pos c3] at H
   have c3b0 : decide (a0 < 2147483579) = true := decide_eq_true c3
   clear c3
   replace H := Option.bind_eq_some_iff.mp H
   obtain ⟨t101,A40,H⟩ := H
   replace H : (some (t101 == 1)) = some r := H
   have A4 := qq.mk A40
   clear A40
   obtain rfl := Option.some.inj H
   go_enter Try.func39,Try.ntmps39
   go_wp2_with (first | (go_at_call 69;(with_reducible refine (qqv.calls k a0 1073741789 2147483579 t101 _ A4.out).mono ?_);rintro e w' ⟨rfl,⟨nd,rfl⟩⟩))
   go_ret
   exact ⟨by first | rfl | (simp;done) | (simp [*];done),by repeat (first | exact Drawn0.refl _ | apply Drawn0.step)⟩
  ·rw [if_neg c3] at H
   have c3b0 : decide (a0 < 2147483579) = false := decide_eq_false c3
   clear c3
   obtain rfl := Option.some.inj H
   go_enter Try.func39,Try.ntmps39
   go_wp2
   go_ret
   exact ⟨by first | rfl | (simp;done) | (simp [*];done),by repeat (first | exact Drawn0.refl _ | apply Drawn0.step)⟩
 ·rw [if_neg c2] at H
  have c2b0 : decide (2 ≤ a0) = false := decide_eq_false c2
  clear c2
  obtain rfl := Option.some.inj H
  go_enter Try.func39,Try.ntmps39
  go_wp2
  go_ret
  exact ⟨by first | rfl | (simp;done) | (simp [*];done),by repeat (first | exact Drawn0.refl _ | apply Drawn0.step)⟩
end Go.Proofs.Ytakocdkcfjkmdaa.Pr
namespace Go.Proofs.Ytakocdkcfjkmdaa.Pr
open Go.RowKit Go.Proofs.YtakocdkcfjkmdaaW.PrintWords Go.Proofs.YtakocdkcfjkmdaaW.PrintLast Go.Proofs.YtakocdkcfjkmdaaW.PrintMore
attribute [local go_sem] max2_int min2_int max_two min_two max_three min_three max_four min_four
set_option linter.unusedVariables false
set_option linter.unusedSimpArgs false
def xv.l0 : Nat → List (S53) → List (S53) → Int → Int → Option (Bool)
 | 0,_,_,_,_ => none
 | k + 1,x0,x5,x6,x7 => if x7 < x6 then (if 0 ≤ x7 then (if x7 < (x5.length : Int) then ((qqx.f k ((kw x5 x7).f0)).bind fun t103 => (if t103 = true then (if x7 > 0 then (if 0 ≤ (wrap64 (x7 - 1)) then (if (wrap64 (x7 - 1)) < (x0.length : Int) then ((qqz.f k ((kw x0 (wrap64 (x7 - 1))).f0) ((kw x5 x7).f0)).bind fun t105 => (if t105 ≥ 0 then (some false) else ((qqw.f k ((kw x5 x7).f1)).bind fun t106 => (if t106 = true then (if ((kw x5 x7).f2) < 0 then (some false) else (if ((kw x5 x7).f3) > 100000000000 then (some false) else (if ((kw x5 x7).f2) > ((kw x5 x7).f3) then (some false) else (xv.l0 k x0 x5 x6 (wrap64 (x7 + 1)))))) else (some false))))) else (none)) else (none)) else ((qqw.f k ((kw x5 x7).f1)).bind fun t107 => (if t107 = true then (if ((kw x5 x7).f2) < 0 then (some false) else (if ((kw x5 x7).f3) > 100000000000 then (some false) else (if ((kw x5 x7).f2) > ((kw x5 x7).f3) then (some false) else (xv.l0 k x0 x5 x6 (wrap64 (x7 + 1)))))) else (some false)))) else (some false))) else (none)) else (none)) else (some (decide ((x0.length : Int) ≤ 10)))
def xv.f (k : Nat) (l0 : List (S53)) : Option (Bool) := xv.l0 k l0 l0 (l0.length : Int) 0
set_option maxHeartbeats 8000000 in
set_option maxRecDepth 100000 in
theorem xv.calls (k : Nat) (A0 : Option Addr) (c0 : Nat) (l0 : List (S53)) (r : Bool) (w : World) (hr0 : Kd.C k53 w A0 l0.length l0) (hc0 : l0.length ≤ c0) (h : xv.f k l0 = some r) :
  Calls Try.prog 14 #[.slice A0 l0.length c0] w fun e w' => e = .returned (.bool r) ∧ Below w.heap.size w w' := by
 have hu53 := Try.underlying53
 have HR0 := qq.mk hr0
 have HC0 := qq.mk hc0
 clear hr0 hc0
 have HB := qq.mk (Below.refl w.heap.size w)
 have H : (xv.l0 k l0 l0 (l0.length : Int) 0) = some r := h
 clear h
 have H' := qq.mk H
 clear H
 go_enter Try.func14,Try.ntmps14
 go_wp2
 go_loopg [7] k (fun kq v7 w' => ∃ (x7_1 : Int),v7 = .int .i64 x7_1 ∧ qq (xv.l0 kq l0 l0 (l0.length : Int) x7_1 = some r) ∧ qq (kq ≤ k) ∧ qq (Below w.heap.size w w'))
 case atStart => exact ⟨(0),(by first | rfl | (simp;done) | (simp [*];done)),H',⟨Nat.le_refl _⟩,⟨by repeat (first | (with_reducible first | exact HB.out | apply qj | apply qz | apply qk) | exact HB.out)⟩⟩
 case round =>
  clear H'
  try clear c1
  obtain ⟨x7_1,rfl,HA,HK1,HB⟩ := hrel
  cases gk with
  | zero => exact absurd HA.out (by simp [xv.l0])
  | succ k1 =>
   have H := HA.out
   clear HA
   simp only [xv.l0] at H
   by_cases c2 : x7_1 < (l0.length : Int)
   ·rw [if_pos c2] at H
    have c2b0 : decide (x7_1 < (l0.length : Int)) = true := decide_eq_true c2
    clear c2
    by_cases c3 : 0 ≤ x7_1
    ·rw [if_pos c3] at H
     have c3b0 : decide (0 ≤ x7_1) = true := decide_eq_true c3
     clear c3
     by_cases c4 : x7_1 < (l0.length : Int)
     ·rw [if_pos c4] at H
      have c4b0 : decide (x7_1 < (l0.length : Int)) = true := decide_eq_true c4
      clear c4
      replace H := Option.bind_eq_some_iff.mp H
      obtain ⟨t103,A50,H⟩ := H
      replace H : (if t103 = true then (if x7_1 > 0 then (if 0 ≤ (wrap64 (x7_1 - 1)) then (if (wrap64 (x7_1 - 1)) < (l0.length : Int) then ((qqz.f k1 ((kw l0 (wrap64 (x7_1 - 1))).f0) ((kw l0 x7_1).f0)).bind fun t105 => (if t105 ≥ 0 then (some false) else ((qqw.f k1 ((kw l0 x7_1).f1)).bind fun t106 => (if t106 = true then (if ((kw l0 x7_1).f2) < 0 then (some false) else (if ((kw l0 x7_1).f3) > 100000000000 then (some false) else (if ((kw l0 x7_1).f2) > ((kw l0 x7_1).f3) then (some false) else (xv.l0 k1 l0 l0 (l0.length : Int) (wrap64 (x7_1 + 1)))))) else (some false))))) else (none)) else (none)) else ((qqw.f k1 ((kw l0 x7_1).f1)).bind fun t107 => (if t107 = true then (if ((kw l0 x7_1).f2) < 0 then (some false) else (if ((kw l0 x7_1).f3) > 100000000000 then (some false) else (if ((kw l0 x7_1).f2) > ((kw l0 x7_1).f3) then (some false) else (xv.l0 k1 l0 l0 (l0.length : Int) (wrap64 (x7_1 + 1)))))) else (some false)))) else (some false)) = some r := H
      have A5 := qq.mk A50
      clear A50
      by_cases c6 : t103 = true
      ·subst c6
       have H1 : (if x7_1 > 0 then (if 0 ≤ (wrap64 (x7_1 - 1)) then (if (wrap64 (x7_1 - 1)) < (l0.length : Int) then ((qqz.f k1 ((kw l0 (wrap64 (x7_1 - 1))).f0) ((kw l0 x7_1).f0)).bind fun t105 => (if t105 ≥ 0 then (some false) else ((qqw.f k1 ((kw l0 x7_1).f1)).bind fun t106 => (if t106 = true then (if ((kw l0 x7_1).f2) < 0 then (some false) else (if ((kw l0 x7_1).f3) > 100000000000 then (some false) else (if ((kw l0 x7_1).f2) > ((kw l0 x7_1).f3) then (some false) else (xv.l0 k1 l0 l0 (l0.length : Int) (wrap64 (x7_1 + 1)))))) else (some false))))) else (none)) else (none)) else ((qqw.f k1 ((kw l0 x7_1).f1)).bind fun t107 => (if t107 = true then (if ((kw l0 x7_1).f2) < 0 then (some false) else (if ((kw l0 x7_1).f3) > 100000000000 then (some false) else (if ((kw l0 x7_1).f2) > ((kw l0 x7_1).f3) then (some false) else (xv.l0 k1 l0 l0 (l0.length : Int) (wrap64 (x7_1 + 1)))))) else (some false)))) = some r := by rw [if_pos rfl] at H;exact H
       clear H
       have H := H1
       clear H1
       by_cases c7 : x7_1 > 0
       ·rw [if_pos c7] at H
        have c7b0 : decide (0 < x7_1) = true := decide_eq_true c7
        clear c7
        obtain ⟨ji8,hji8⟩ : ∃ j_ : Int,(wrap64 (x7_1 - 1)) = j_ := ⟨_,rfl⟩
        replace H : (if 0 ≤ (ji8) then (if (ji8) < (l0.length : Int) then ((qqz.f k1 ((kw l0 (ji8)).f0) ((kw l0 x7_1).f0)).bind fun t105 => (if t105 ≥ 0 then (some false) else ((qqw.f k1 ((kw l0 x7_1).f1)).bind fun t106 => (if t106 = true then (if ((kw l0 x7_1).f2) < 0 then (some false) else (if ((kw l0 x7_1).f3) > 100000000000 then (some false) else (if ((kw l0 x7_1).f2) > ((kw l0 x7_1).f3) then (some false) else (xv.l0 k1 l0 l0 (l0.length : Int) (wrap64 (x7_1 + 1)))))) else (some false))))) else (none)) else (none)) = some r := by first | (rw [hji8] at H;exact H) | (simp only [hji8] at H ⊢;exact H)
        (try rw [hji8] at A5)
        have hji8w : (IntKind.i64.wrap (x7_1 - 1)) = ji8 := (i64_w _).trans hji8
        by_cases c9 : 0 ≤ (ji8)
        ·rw [if_pos c9] at H
         have c9b0 : decide (0 ≤ (ji8)) = true := decide_eq_true c9
         clear c9
         by_cases c10 : (ji8) < (l0.length : Int)
         ·rw [if_pos c10] at H
          have c10b0 : decide ((ji8) < (l0.length : Int)) = true := decide_eq_true c10
          clear c10
          replace H := Option.bind_eq_some_iff.mp H
          obtain ⟨t105,A110,H⟩ := H
          replace H : (if t105 ≥ 0 then (some false) else ((qqw.f k1 ((kw l0 x7_1).f1)).bind fun t106 => (if t106 = true then (if ((kw l0 x7_1).f2) < 0 then (some false) else (if ((kw l0 x7_1).f3) > 100000000000 then (some false) else (if ((kw l0 x7_1).f2) > ((kw l0 x7_1).f3) then (some false) else (xv.l0 k1 l0 l0 (l0.length : Int) (wrap64 (x7_1 + 1)))))) else (some false)))) = some r := H
          have A11 := qq.mk A110
          clear A110
          by_cases c12 : t105 ≥ 0
          ·rw [if_pos c12] at H
           have c12b0 : decide (0 ≤ t105) = true := decide_eq_true c12
           clear c12
           obtain rfl := Option.some.inj H
           have p101 : 0 ≤ (x7_1 : Int) := of_decide_eq_true (by assumption)
           have q101 : x7_1 < (l0.length : Int) := of_decide_eq_true (by assumption)
           obtain ⟨ad101,e101,hx101_0,hx101_1,hx101_2,hx101_3⟩ := at_T53 HR0.out x7_1 p101 q101
           cases e101
           replace hx101_0 := (HB.out.cell (World.block_lt_of_cell? w _ hx101_0)).trans hx101_0
           replace hx101_1 := (HB.out.cell (World.block_lt_of_cell? w _ hx101_1)).trans hx101_1
           replace hx101_2 := (HB.out.cell (World.block_lt_of_cell? w _ hx101_2)).trans hx101_2
           replace hx101_3 := (HB.out.cell (World.block_lt_of_cell? w _ hx101_3)).trans hx101_3
           replace p101 := eq_true p101
           replace q101 := eq_true q101
           try go_wp2_with (first | ((with_reducible refine gate_dst (N := 4) rfl ?_);refine box_event ?hg (N := 4) ?hd (cs := #[.string (⟨#[]⟩ : ByteArray),.int .i64 0,.int .i64 0,.int .i64 0]) (t := 53) ?hr ?_;(case hd => rfl);(case hg => rfl);(case hr => first | (go_simp;done) | (go_simp;rfl));intro gb102 hg w13 hbox hb;have n0_ := qq.mk (zv (by repeat (first | (with_reducible first | exact HB.out | apply qj | apply qz | apply qk) | exact HB.out)) hb);have n1_ := qq.mk (hbox);have n2_ := qq.mk ((by rw [hg];exact (zw (by repeat (first | (with_reducible first | exact HB.out | apply qj | apply qz | apply qk) | exact HB.out))) : w.heap.size ≤ gb102));have n3_ := qq.mk ((by rw [hg];exact (zw (by repeat (first | (with_reducible first | exact HB.out | apply qj | apply qz | apply qk) | exact HB.out))) : w.heap.size ≤ gb102));clear HB;have HB := n0_;have BK102 := n1_;have GW102 := n2_;have GE102 := n3_;clear n0_ n1_ n2_ n3_;clear hb hbox hg;have hcz14_0 : w13.cell? ⟨gb102,0,none⟩ = some (.string (⟨#[]⟩ : ByteArray)) := (qw BK102.out 0).trans rfl;have hcz14_1 : w13.cell? ⟨gb102,1,none⟩ = some (.int .i64 0) := (qw BK102.out 1).trans rfl;have hcz14_2 : w13.cell? ⟨gb102,2,none⟩ = some (.int .i64 0) := (qw BK102.out 2).trans rfl;have hcz14_3 : w13.cell? ⟨gb102,3,none⟩ = some (.int .i64 0) := (qw BK102.out 3).trans rfl;have hfz14_0 := qv BK102.out 0;have hfz14_1 := qv BK102.out 1;have hfz14_2 := qv BK102.out 2;have hfz14_3 := qv BK102.out 3))
           have n0_ : qq (((((w13.setCell ⟨gb102,0,none⟩ (.string ((kw l0 x7_1).f0))).setCell ⟨gb102,1,none⟩ (.int .i64 ((kw l0 x7_1).f1))).setCell ⟨gb102,2,none⟩ (.int .i64 ((kw l0 x7_1).f2))).setCell ⟨gb102,3,none⟩ (.int .i64 ((kw l0 x7_1).f3))).heap[gb102]? = some (.cells #[.string ((kw l0 x7_1).f0),.int .i64 ((kw l0 x7_1).f1),.int .i64 ((kw l0 x7_1).f2),.int .i64 ((kw l0 x7_1).f3)] 53 (0,0))) := ⟨by (with_reducible repeat (first | refine zz ?_ _ | refine zj ?_ | refine zq ?_ _));refine blk_put (cs := #[.string ((kw l0 x7_1).f0),.int .i64 ((kw l0 x7_1).f1),.int .i64 ((kw l0 x7_1).f2),.int .i64 0]) ?_ 3 _ rfl;(with_reducible repeat (first | refine zz ?_ _ | refine zj ?_ | refine zq ?_ _));refine blk_put (cs := #[.string ((kw l0 x7_1).f0),.int .i64 ((kw l0 x7_1).f1),.int .i64 0,.int .i64 0]) ?_ 2 _ rfl;(with_reducible repeat (first | refine zz ?_ _ | refine zj ?_ | refine zq ?_ _));refine blk_put (cs := #[.string ((kw l0 x7_1).f0),.int .i64 0,.int .i64 0,.int .i64 0]) ?_ 1 _ rfl;(with_reducible repeat (first | refine zz ?_ _ | refine zj ?_ | refine zq ?_ _));refine blk_put (cs := #[.string (⟨#[]⟩ : ByteArray),.int .i64 0,.int .i64 0,.int .i64 0]) ?_ 0 _ rfl;(with_reducible repeat (first | refine zz ?_ _ | refine zj ?_ | refine zq ?_ _));exact BK102.out⟩
           have n1_ : qq (Below w.heap.size w ((((w13.setCell ⟨gb102,0,none⟩ (.string ((kw l0 x7_1).f0))).setCell ⟨gb102,1,none⟩ (.int .i64 ((kw l0 x7_1).f1))).setCell ⟨gb102,2,none⟩ (.int .i64 ((kw l0 x7_1).f2))).setCell ⟨gb102,3,none⟩ (.int .i64 ((kw l0 x7_1).f3)))) := ⟨by repeat (first | (with_reducible first | exact HB.out | apply qj | apply qz | apply qk | refine qx ?_ GE102.out) | exact HB.out)⟩
           (try clear BK102)
           (try clear HB)
           generalize ((((w13.setCell ⟨gb102,0,none⟩ (.string ((kw l0 x7_1).f0))).setCell ⟨gb102,1,none⟩ (.int .i64 ((kw l0 x7_1).f1))).setCell ⟨gb102,2,none⟩ (.int .i64 ((kw l0 x7_1).f2))).setCell ⟨gb102,3,none⟩ (.int .i64 ((kw l0 x7_1).f3))) = w15 at n0_ n1_ ⊢
           have BK102 := n0_
           have HB := n1_
           clear n0_ n1_
           have p104 : 0 ≤ ((ji8) : Int) := of_decide_eq_true (by assumption)
           have q104 : (ji8) < (l0.length : Int) := of_decide_eq_true (by assumption)
           obtain ⟨ad104,e104,hx104_0,hx104_1,hx104_2,hx104_3⟩ := at_T53 HR0.out (ji8) p104 q104
           have hw104_3 := hx104_3
           have hw104_2 := hx104_2
           have hw104_1 := hx104_1
           have hw104_0 := hx104_0
           obtain rfl : ad101 = ad104 := (by injection e104)
           replace hx104_0 := (HB.out.cell (World.block_lt_of_cell? w _ hx104_0)).trans hx104_0
           replace hx104_1 := (HB.out.cell (World.block_lt_of_cell? w _ hx104_1)).trans hx104_1
           replace hx104_2 := (HB.out.cell (World.block_lt_of_cell? w _ hx104_2)).trans hx104_2
           replace hx104_3 := (HB.out.cell (World.block_lt_of_cell? w _ hx104_3)).trans hx104_3
           replace p104 := eq_true p104
           replace q104 := eq_true q104
           have hS_ := (show (fun w' => w'.cell? ⟨gb102,0,none⟩ = some (.string ((kw l0 x7_1).f0)) ∧ w'.cell? ⟨gb102,1,none⟩ = some (.int .i64 ((kw l0 x7_1).f1)) ∧ w'.cell? ⟨gb102,2,none⟩ = some (.int .i64 ((kw l0 x7_1).f2)) ∧ w'.cell? ⟨gb102,3,none⟩ = some (.int .i64 ((kw l0 x7_1).f3)) ∧ w'.cell? (ad101.add (((ji8)).toNat * 4)) = some (.string ((kw l0 (ji8)).f0)) ∧ w'.cell? ⟨(ad101.add (((ji8)).toNat * 4)).block,(ad101.add (((ji8)).toNat * 4)).off + 1,none⟩ = some (.int .i64 ((kw l0 (ji8)).f1)) ∧ w'.cell? ⟨(ad101.add (((ji8)).toNat * 4)).block,(ad101.add (((ji8)).toNat * 4)).off + 2,none⟩ = some (.int .i64 ((kw l0 (ji8)).f2)) ∧ w'.cell? ⟨(ad101.add (((ji8)).toNat * 4)).block,(ad101.add (((ji8)).toNat * 4)).off + 3,none⟩ = some (.int .i64 ((kw l0 (ji8)).f3))) (w15) from ⟨(qw BK102.out 0).trans rfl,(qw BK102.out 1).trans rfl,(qw BK102.out 2).trans rfl,(qw BK102.out 3).trans rfl,((HB.out.cell (World.block_lt_of_cell? w _ hw104_0)).trans hw104_0),((HB.out.cell (World.block_lt_of_cell? w _ hw104_1)).trans hw104_1),((HB.out.cell (World.block_lt_of_cell? w _ hw104_2)).trans hw104_2),((HB.out.cell (World.block_lt_of_cell? w _ hw104_3)).trans hw104_3)⟩)
           obtain ⟨hS0_,hS1_,hS2_,hS3_,hS4_,hS5_,hS6_,hS7_⟩ := hS_
           go_quiet ((first | (go_at_call 37;exact Calls.quiet_of ((qqx.calls k1 ((kw l0 x7_1).f0) true _ A5.out).mono fun _ _ h => ⟨h.1,h.2.out⟩)) | (go_at_call 38;exact Calls.quiet_of ((qqz.calls k1 ((kw l0 (ji8)).f0) ((kw l0 x7_1).f0) t105 _ A11.out).mono fun _ _ h => ⟨h.1,h.2.out⟩))))
           clear hS0_ hS1_ hS2_ hS3_ hS4_ hS5_ hS6_ hS7_
           have n0_ := qq.mk (zz BK102.out nq)
           have n1_ := qq.mk (qz HB.out nq)
           clear BK102
           clear HB
           have BK102 := n0_
           have HB := n1_
           clear n0_ n1_
           replace hx104_0 : (World.drewN w15 nq).cell? _ = _ := hx104_0
           replace hx104_1 : (World.drewN w15 nq).cell? _ = _ := hx104_1
           replace hx104_2 : (World.drewN w15 nq).cell? _ = _ := hx104_2
           replace hx104_3 : (World.drewN w15 nq).cell? _ = _ := hx104_3
           generalize World.drewN w15 nq = w16 at BK102 HB hx104_0 hx104_1 hx104_2 hx104_3 ⊢
           try go_wp2
           go_ret
           exact ⟨by first | rfl | (simp [jk,jj] <;> rfl) | (simp only [← hji8];first | rfl | (simp [jk,jj] <;> rfl)) | (simp [*,jk,jj] <;> rfl),by repeat (first | (with_reducible first | exact HB.out | apply qj | apply qz | apply qk | refine qx ?_ GE102.out) | exact HB.out)⟩
          ·rw [if_neg c12] at H
           have c12b0 : decide (0 ≤ t105) = false := decide_eq_false c12
           clear c12
           replace H := Option.bind_eq_some_iff.mp H
           obtain ⟨t106,A170,H⟩ := H
           replace H : (if t106 = true then (if ((kw l0 x7_1).f2) < 0 then (some false) else (if ((kw l0 x7_1).f3) > 100000000000 then (some false) else (if ((kw l0 x7_1).f2) > ((kw l0 x7_1).f3) then (some false) else (xv.l0 k1 l0 l0 (l0.length : Int) (wrap64 (x7_1 + 1)))))) else (some false)) = some r := H
           have A17 := qq.mk A170
           clear A170
           by_cases c18 : t106 = true
           ·subst c18
            have H1 : (if ((kw l0 x7_1).f2) < 0 then (some false) else (if ((kw l0 x7_1).f3) > 100000000000 then (some false) else (if ((kw l0 x7_1).f2) > ((kw l0 x7_1).f3) then (some false) else (xv.l0 k1 l0 l0 (l0.length : Int) (wrap64 (x7_1 + 1)))))) = some r := by rw [if_pos rfl] at H;exact H
            clear H
            have H := H1
            clear H1
            by_cases c19 : ((kw l0 x7_1).f2) < 0
            ·rw [if_pos c19] at H
             have c19b0 : decide (((kw l0 x7_1).f2) < 0) = true := decide_eq_true c19
             clear c19
             obtain rfl := Option.some.inj H
             have p101 : 0 ≤ (x7_1 : Int) := of_decide_eq_true (by assumption)
             have q101 : x7_1 < (l0.length : Int) := of_decide_eq_true (by assumption)
             obtain ⟨ad101,e101,hx101_0,hx101_1,hx101_2,hx101_3⟩ := at_T53 HR0.out x7_1 p101 q101
             cases e101
             replace hx101_0 := (HB.out.cell (World.block_lt_of_cell? w _ hx101_0)).trans hx101_0
             replace hx101_1 := (HB.out.cell (World.block_lt_of_cell? w _ hx101_1)).trans hx101_1
             replace hx101_2 := (HB.out.cell (World.block_lt_of_cell? w _ hx101_2)).trans hx101_2
             replace hx101_3 := (HB.out.cell (World.block_lt_of_cell? w _ hx101_3)).trans hx101_3
             replace p101 := eq_true p101
             replace q101 := eq_true q101
             try go_wp2_with (first | ((with_reducible refine gate_dst (N := 4) rfl ?_);refine box_event ?hg (N := 4) ?hd (cs := #[.string (⟨#[]⟩ : ByteArray),.int .i64 0,.int .i64 0,.int .i64 0]) (t := 53) ?hr ?_;(case hd => rfl);(case hg => rfl);(case hr => first | (go_simp;done) | (go_simp;rfl));intro gb102 hg w20 hbox hb;have n0_ := qq.mk (zv (by repeat (first | (with_reducible first | exact HB.out | apply qj | apply qz | apply qk) | exact HB.out)) hb);have n1_ := qq.mk (hbox);have n2_ := qq.mk ((by rw [hg];exact (zw (by repeat (first | (with_reducible first | exact HB.out | apply qj | apply qz | apply qk) | exact HB.out))) : w.heap.size ≤ gb102));have n3_ := qq.mk ((by rw [hg];exact (zw (by repeat (first | (with_reducible first | exact HB.out | apply qj | apply qz | apply qk) | exact HB.out))) : w.heap.size ≤ gb102));clear HB;have HB := n0_;have BK102 := n1_;have GW102 := n2_;have GE102 := n3_;clear n0_ n1_ n2_ n3_;clear hb hbox hg;have hcz21_0 : w20.cell? ⟨gb102,0,none⟩ = some (.string (⟨#[]⟩ : ByteArray)) := (qw BK102.out 0).trans rfl;have hcz21_1 : w20.cell? ⟨gb102,1,none⟩ = some (.int .i64 0) := (qw BK102.out 1).trans rfl;have hcz21_2 : w20.cell? ⟨gb102,2,none⟩ = some (.int .i64 0) := (qw BK102.out 2).trans rfl;have hcz21_3 : w20.cell? ⟨gb102,3,none⟩ = some (.int .i64 0) := (qw BK102.out 3).trans rfl;have hfz21_0 := qv BK102.out 0;have hfz21_1 := qv BK102.out 1;have hfz21_2 := qv BK102.out 2;have hfz21_3 := qv BK102.out 3))
             have n0_ : qq (((((w20.setCell ⟨gb102,0,none⟩ (.string ((kw l0 x7_1).f0))).setCell ⟨gb102,1,none⟩ (.int .i64 ((kw l0 x7_1).f1))).setCell ⟨gb102,2,none⟩ (.int .i64 ((kw l0 x7_1).f2))).setCell ⟨gb102,3,none⟩ (.int .i64 ((kw l0 x7_1).f3))).heap[gb102]? = some (.cells #[.string ((kw l0 x7_1).f0),.int .i64 ((kw l0 x7_1).f1),.int .i64 ((kw l0 x7_1).f2),.int .i64 ((kw l0 x7_1).f3)] 53 (0,0))) := ⟨by (with_reducible repeat (first | refine zz ?_ _ | refine zj ?_ | refine zq ?_ _));refine blk_put (cs := #[.string ((kw l0 x7_1).f0),.int .i64 ((kw l0 x7_1).f1),.int .i64 ((kw l0 x7_1).f2),.int .i64 0]) ?_ 3 _ rfl;(with_reducible repeat (first | refine zz ?_ _ | refine zj ?_ | refine zq ?_ _));refine blk_put (cs := #[.string ((kw l0 x7_1).f0),.int .i64 ((kw l0 x7_1).f1),.int .i64 0,.int .i64 0]) ?_ 2 _ rfl;(with_reducible repeat (first | refine zz ?_ _ | refine zj ?_ | refine zq ?_ _));refine blk_put (cs := #[.string ((kw l0 x7_1).f0),.int .i64 0,.int .i64 0,.int .i64 0]) ?_ 1 _ rfl;(with_reducible repeat (first | refine zz ?_ _ | refine zj ?_ | refine zq ?_ _));refine blk_put (cs := #[.string (⟨#[]⟩ : ByteArray),.int .i64 0,.int .i64 0,.int .i64 0]) ?_ 0 _ rfl;(with_reducible repeat (first | refine zz ?_ _ | refine zj ?_ | refine zq ?_ _));exact BK102.out⟩
             have n1_ : qq (Below w.heap.size w ((((w20.setCell ⟨gb102,0,none⟩ (.string ((kw l0 x7_1).f0))).setCell ⟨gb102,1,none⟩ (.int .i64 ((kw l0 x7_1).f1))).setCell ⟨gb102,2,none⟩ (.int .i64 ((kw l0 x7_1).f2))).setCell ⟨gb102,3,none⟩ (.int .i64 ((kw l0 x7_1).f3)))) := ⟨by repeat (first | (with_reducible first | exact HB.out | apply qj | apply qz | apply qk | refine qx ?_ GE102.out) | exact HB.out)⟩
             (try clear BK102)
             (try clear HB)
             generalize ((((w20.setCell ⟨gb102,0,none⟩ (.string ((kw l0 x7_1).f0))).setCell ⟨gb102,1,none⟩ (.int .i64 ((kw l0 x7_1).f1))).setCell ⟨gb102,2,none⟩ (.int .i64 ((kw l0 x7_1).f2))).setCell ⟨gb102,3,none⟩ (.int .i64 ((kw l0 x7_1).f3))) = w22 at n0_ n1_ ⊢
             have BK102 := n0_
             have HB := n1_
             clear n0_ n1_
             have p104 : 0 ≤ ((ji8) : Int) := of_decide_eq_true (by assumption)
             have q104 : (ji8) < (l0.length : Int) := of_decide_eq_true (by assumption)
             obtain ⟨ad104,e104,hx104_0,hx104_1,hx104_2,hx104_3⟩ := at_T53 HR0.out (ji8) p104 q104
             have hw104_3 := hx104_3
             have hw104_2 := hx104_2
             have hw104_1 := hx104_1
             have hw104_0 := hx104_0
             obtain rfl : ad101 = ad104 := (by injection e104)
             replace hx104_0 := (HB.out.cell (World.block_lt_of_cell? w _ hx104_0)).trans hx104_0
             replace hx104_1 := (HB.out.cell (World.block_lt_of_cell? w _ hx104_1)).trans hx104_1
             replace hx104_2 := (HB.out.cell (World.block_lt_of_cell? w _ hx104_2)).trans hx104_2
             replace hx104_3 := (HB.out.cell (World.block_lt_of_cell? w _ hx104_3)).trans hx104_3
             replace p104 := eq_true p104
             replace q104 := eq_true q104
             have hS_ := (show (fun w' => w'.cell? ⟨gb102,0,none⟩ = some (.string ((kw l0 x7_1).f0)) ∧ w'.cell? ⟨gb102,1,none⟩ = some (.int .i64 ((kw l0 x7_1).f1)) ∧ w'.cell? ⟨gb102,2,none⟩ = some (.int .i64 ((kw l0 x7_1).f2)) ∧ w'.cell? ⟨gb102,3,none⟩ = some (.int .i64 ((kw l0 x7_1).f3)) ∧ w'.cell? (ad101.add (((ji8)).toNat * 4)) = some (.string ((kw l0 (ji8)).f0)) ∧ w'.cell? ⟨(ad101.add (((ji8)).toNat * 4)).block,(ad101.add (((ji8)).toNat * 4)).off + 1,none⟩ = some (.int .i64 ((kw l0 (ji8)).f1)) ∧ w'.cell? ⟨(ad101.add (((ji8)).toNat * 4)).block,(ad101.add (((ji8)).toNat * 4)).off + 2,none⟩ = some (.int .i64 ((kw l0 (ji8)).f2)) ∧ w'.cell? ⟨(ad101.add (((ji8)).toNat * 4)).block,(ad101.add (((ji8)).toNat * 4)).off + 3,none⟩ = some (.int .i64 ((kw l0 (ji8)).f3))) (w22) from ⟨(qw BK102.out 0).trans rfl,(qw BK102.out 1).trans rfl,(qw BK102.out 2).trans rfl,(qw BK102.out 3).trans rfl,((HB.out.cell (World.block_lt_of_cell? w _ hw104_0)).trans hw104_0),((HB.out.cell (World.block_lt_of_cell? w _ hw104_1)).trans hw104_1),((HB.out.cell (World.block_lt_of_cell? w _ hw104_2)).trans hw104_2),((HB.out.cell (World.block_lt_of_cell? w _ hw104_3)).trans hw104_3)⟩)
             obtain ⟨hS0_,hS1_,hS2_,hS3_,hS4_,hS5_,hS6_,hS7_⟩ := hS_
             go_quiet ((first | (go_at_call 37;exact Calls.quiet_of ((qqx.calls k1 ((kw l0 x7_1).f0) true _ A5.out).mono fun _ _ h => ⟨h.1,h.2.out⟩)) | (go_at_call 38;exact Calls.quiet_of ((qqz.calls k1 ((kw l0 (ji8)).f0) ((kw l0 x7_1).f0) t105 _ A11.out).mono fun _ _ h => ⟨h.1,h.2.out⟩)) | (go_at_call 39;exact Calls.quiet_of ((qqw.calls k1 ((kw l0 x7_1).f1) true _ A17.out).mono fun _ _ h => ⟨h.1,h.2.out⟩))))
             clear hS0_ hS1_ hS2_ hS3_ hS4_ hS5_ hS6_ hS7_
             have n0_ := qq.mk (zz BK102.out nq)
             have n1_ := qq.mk (qz HB.out nq)
             clear BK102
             clear HB
             have BK102 := n0_
             have HB := n1_
             clear n0_ n1_
             replace hx104_0 : (World.drewN w22 nq).cell? _ = _ := hx104_0
             replace hx104_1 : (World.drewN w22 nq).cell? _ = _ := hx104_1
             replace hx104_2 : (World.drewN w22 nq).cell? _ = _ := hx104_2
             replace hx104_3 : (World.drewN w22 nq).cell? _ = _ := hx104_3
             generalize World.drewN w22 nq = w23 at BK102 HB hx104_0 hx104_1 hx104_2 hx104_3 ⊢
             try go_wp2
             go_ret
             exact ⟨by first | rfl | (simp [jk,jj] <;> rfl) | (simp only [← hji8];first | rfl | (simp [jk,jj] <;> rfl)) | (simp [*,jk,jj] <;> rfl),by repeat (first | (with_reducible first | exact HB.out | apply qj | apply qz | apply qk | refine qx ?_ GE102.out) | exact HB.out)⟩
            ·rw [if_neg c19] at H
             have c19b0 : decide (((kw l0 x7_1).f2) < 0) = false := decide_eq_false c19
             clear c19
             by_cases c24 : ((kw l0 x7_1).f3) > 100000000000
             ·rw [if_pos c24] at H
              have c24b0 : decide (100000000000 < ((kw l0 x7_1).f3)) = true := decide_eq_true c24
              clear c24
              obtain rfl := Option.some.inj H
              have p101 : 0 ≤ (x7_1 : Int) := of_decide_eq_true (by assumption)
              have q101 : x7_1 < (l0.length : Int) := of_decide_eq_true (by assumption)
              obtain ⟨ad101,e101,hx101_0,hx101_1,hx101_2,hx101_3⟩ := at_T53 HR0.out x7_1 p101 q101
              cases e101
              replace hx101_0 := (HB.out.cell (World.block_lt_of_cell? w _ hx101_0)).trans hx101_0
              replace hx101_1 := (HB.out.cell (World.block_lt_of_cell? w _ hx101_1)).trans hx101_1
              replace hx101_2 := (HB.out.cell (World.block_lt_of_cell? w _ hx101_2)).trans hx101_2
              replace hx101_3 := (HB.out.cell (World.block_lt_of_cell? w _ hx101_3)).trans hx101_3
              replace p101 := eq_true p101
              replace q101 := eq_true q101
              try go_wp2_with (first | ((with_reducible refine gate_dst (N := 4) rfl ?_);refine box_event ?hg (N := 4) ?hd (cs := #[.string (⟨#[]⟩ : ByteArray),.int .i64 0,.int .i64 0,.int .i64 0]) (t := 53) ?hr ?_;(case hd => rfl);(case hg => rfl);(case hr => first | (go_simp;done) | (go_simp;rfl));intro gb102 hg w25 hbox hb;have n0_ := qq.mk (zv (by repeat (first | (with_reducible first | exact HB.out | apply qj | apply qz | apply qk) | exact HB.out)) hb);have n1_ := qq.mk (hbox);have n2_ := qq.mk ((by rw [hg];exact (zw (by repeat (first | (with_reducible first | exact HB.out | apply qj | apply qz | apply qk) | exact HB.out))) : w.heap.size ≤ gb102));have n3_ := qq.mk ((by rw [hg];exact (zw (by repeat (first | (with_reducible first | exact HB.out | apply qj | apply qz | apply qk) | exact HB.out))) : w.heap.size ≤ gb102));clear HB;have HB := n0_;have BK102 := n1_;have GW102 := n2_;have GE102 := n3_;clear n0_ n1_ n2_ n3_;clear hb hbox hg;have hcz26_0 : w25.cell? ⟨gb102,0,none⟩ = some (.string (⟨#[]⟩ : ByteArray)) := (qw BK102.out 0).trans rfl;have hcz26_1 : w25.cell? ⟨gb102,1,none⟩ = some (.int .i64 0) := (qw BK102.out 1).trans rfl;have hcz26_2 : w25.cell? ⟨gb102,2,none⟩ = some (.int .i64 0) := (qw BK102.out 2).trans rfl;have hcz26_3 : w25.cell? ⟨gb102,3,none⟩ = some (.int .i64 0) := (qw BK102.out 3).trans rfl;have hfz26_0 := qv BK102.out 0;have hfz26_1 := qv BK102.out 1;have hfz26_2 := qv BK102.out 2;have hfz26_3 := qv BK102.out 3))
              have n0_ : qq (((((w25.setCell ⟨gb102,0,none⟩ (.string ((kw l0 x7_1).f0))).setCell ⟨gb102,1,none⟩ (.int .i64 ((kw l0 x7_1).f1))).setCell ⟨gb102,2,none⟩ (.int .i64 ((kw l0 x7_1).f2))).setCell ⟨gb102,3,none⟩ (.int .i64 ((kw l0 x7_1).f3))).heap[gb102]? = some (.cells #[.string ((kw l0 x7_1).f0),.int .i64 ((kw l0 x7_1).f1),.int .i64 ((kw l0 x7_1).f2),.int .i64 ((kw l0 x7_1).f3)] 53 (0,0))) := ⟨by (with_reducible repeat (first | refine zz ?_ _ | refine zj ?_ | refine zq ?_ _));refine blk_put (cs := #[.string ((kw l0 x7_1).f0),.int .i64 ((kw l0 x7_1).f1),.int .i64 ((kw l0 x7_1).f2),.int .i64 0]) ?_ 3 _ rfl;(with_reducible repeat (first | refine zz ?_ _ | refine zj ?_ | refine zq ?_ _));refine blk_put (cs := #[.string ((kw l0 x7_1).f0),.int .i64 ((kw l0 x7_1).f1),.int .i64 0,.int .i64 0]) ?_ 2 _ rfl;(with_reducible repeat (first | refine zz ?_ _ | refine zj ?_ | refine zq ?_ _));refine blk_put (cs := #[.string ((kw l0 x7_1).f0),.int .i64 0,.int .i64 0,.int .i64 0]) ?_ 1 _ rfl;(with_reducible repeat (first | refine zz ?_ _ | refine zj ?_ | refine zq ?_ _));refine blk_put (cs := #[.string (⟨#[]⟩ : ByteArray),.int .i64 0,.int .i64 0,.int .i64 0]) ?_ 0 _ rfl;(with_reducible repeat (first | refine zz ?_ _ | refine zj ?_ | refine zq ?_ _));exact BK102.out⟩
              have n1_ : qq (Below w.heap.size w ((((w25.setCell ⟨gb102,0,none⟩ (.string ((kw l0 x7_1).f0))).setCell ⟨gb102,1,none⟩ (.int .i64 ((kw l0 x7_1).f1))).setCell ⟨gb102,2,none⟩ (.int .i64 ((kw l0 x7_1).f2))).setCell ⟨gb102,3,none⟩ (.int .i64 ((kw l0 x7_1).f3)))) := ⟨by repeat (first | (with_reducible first | exact HB.out | apply qj | apply qz | apply qk | refine qx ?_ GE102.out) | exact HB.out)⟩
              (try clear BK102)
              (try clear HB)
              generalize ((((w25.setCell ⟨gb102,0,none⟩ (.string ((kw l0 x7_1).f0))).setCell ⟨gb102,1,none⟩ (.int .i64 ((kw l0 x7_1).f1))).setCell ⟨gb102,2,none⟩ (.int .i64 ((kw l0 x7_1).f2))).setCell ⟨gb102,3,none⟩ (.int .i64 ((kw l0 x7_1).f3))) = w27 at n0_ n1_ ⊢
              have BK102 := n0_
              have HB := n1_
              clear n0_ n1_
              have p104 : 0 ≤ ((ji8) : Int) := of_decide_eq_true (by assumption)
              have q104 : (ji8) < (l0.length : Int) := of_decide_eq_true (by assumption)
              obtain ⟨ad104,e104,hx104_0,hx104_1,hx104_2,hx104_3⟩ := at_T53 HR0.out (ji8) p104 q104
              have hw104_3 := hx104_3
              have hw104_2 := hx104_2
              have hw104_1 := hx104_1
              have hw104_0 := hx104_0
              obtain rfl : ad101 = ad104 := (by injection e104)
              replace hx104_0 := (HB.out.cell (World.block_lt_of_cell? w _ hx104_0)).trans hx104_0
              replace hx104_1 := (HB.out.cell (World.block_lt_of_cell? w _ hx104_1)).trans hx104_1
              replace hx104_2 := (HB.out.cell (World.block_lt_of_cell? w _ hx104_2)).trans hx104_2
              replace hx104_3 := (HB.out.cell (World.block_lt_of_cell? w _ hx104_3)).trans hx104_3
              replace p104 := eq_true p104
              replace q104 := eq_true q104
              have hS_ := (show (fun w' => w'.cell? ⟨gb102,0,none⟩ = some (.string ((kw l0 x7_1).f0)) ∧ w'.cell? ⟨gb102,1,none⟩ = some (.int .i64 ((kw l0 x7_1).f1)) ∧ w'.cell? ⟨gb102,2,none⟩ = some (.int .i64 ((kw l0 x7_1).f2)) ∧ w'.cell? ⟨gb102,3,none⟩ = some (.int .i64 ((kw l0 x7_1).f3)) ∧ w'.cell? (ad101.add (((ji8)).toNat * 4)) = some (.string ((kw l0 (ji8)).f0)) ∧ w'.cell? ⟨(ad101.add (((ji8)).toNat * 4)).block,(ad101.add (((ji8)).toNat * 4)).off + 1,none⟩ = some (.int .i64 ((kw l0 (ji8)).f1)) ∧ w'.cell? ⟨(ad101.add (((ji8)).toNat * 4)).block,(ad101.add (((ji8)).toNat * 4)).off + 2,none⟩ = some (.int .i64 ((kw l0 (ji8)).f2)) ∧ w'.cell? ⟨(ad101.add (((ji8)).toNat * 4)).block,(ad101.add (((ji8)).toNat * 4)).off + 3,none⟩ = some (.int .i64 ((kw l0 (ji8)).f3))) (w27) from ⟨(qw BK102.out 0).trans rfl,(qw BK102.out 1).trans rfl,(qw BK102.out 2).trans rfl,(qw BK102.out 3).trans rfl,((HB.out.cell (World.block_lt_of_cell? w _ hw104_0)).trans hw104_0),((HB.out.cell (World.block_lt_of_cell? w _ hw104_1)).trans hw104_1),((HB.out.cell (World.block_lt_of_cell? w _ hw104_2)).trans hw104_2),((HB.out.cell (World.block_lt_of_cell? w _ hw104_3)).trans hw104_3)⟩)
              obtain ⟨hS0_,hS1_,hS2_,hS3_,hS4_,hS5_,hS6_,hS7_⟩ := hS_
              go_quiet ((first | (go_at_call 37;exact Calls.quiet_of ((qqx.calls k1 ((kw l0 x7_1).f0) true _ A5.out).mono fun _ _ h => ⟨h.1,h.2.out⟩)) | (go_at_call 38;exact Calls.quiet_of ((qqz.calls k1 ((kw l0 (ji8)).f0) ((kw l0 x7_1).f0) t105 _ A11.out).mono fun _ _ h => ⟨h.1,h.2.out⟩)) | (go_at_call 39;exact Calls.quiet_of ((qqw.calls k1 ((kw l0 x7_1).f1) true _ A17.out).mono fun _ _ h => ⟨h.1,h.2.out⟩))))
              clear hS0_ hS1_ hS2_ hS3_ hS4_ hS5_ hS6_ hS7_
              have n0_ := qq.mk (zz BK102.out nq)
              have n1_ := qq.mk (qz HB.out nq)
              clear BK102
              clear HB
              have BK102 := n0_
              have HB := n1_
              clear n0_ n1_
              replace hx104_0 : (World.drewN w27 nq).cell? _ = _ := hx104_0
              replace hx104_1 : (World.drewN w27 nq).cell? _ = _ := hx104_1
              replace hx104_2 : (World.drewN w27 nq).cell? _ = _ := hx104_2
              replace hx104_3 : (World.drewN w27 nq).cell? _ = _ := hx104_3
              generalize World.drewN w27 nq = w28 at BK102 HB hx104_0 hx104_1 hx104_2 hx104_3 ⊢
              try go_wp2
              go_ret
              exact ⟨by first | rfl | (simp [jk,jj] <;> rfl) | (simp only [← hji8];first | rfl | (simp [jk,jj] <;> rfl)) | (simp [*,jk,jj] <;> rfl),by repeat (first | (with_reducible first | exact HB.out | apply qj | apply qz | apply qk | refine qx ?_ GE102.out) | exact HB.out)⟩
             ·rw [if_neg c24] at H
              have c24b0 : decide (100000000000 < ((kw l0 x7_1).f3)) = false := decide_eq_false c24
              clear c24
              by_cases c29 : ((kw l0 x7_1).f2) > ((kw l0 x7_1).f3)
              ·rw [if_pos c29] at H
               have c29b0 : decide (((kw l0 x7_1).f3) < ((kw l0 x7_1).f2)) = true := decide_eq_true c29
               clear c29
               obtain rfl := Option.some.inj H
               have p101 : 0 ≤ (x7_1 : Int) := of_decide_eq_true (by assumption)
               have q101 : x7_1 < (l0.length : Int) := of_decide_eq_true (by assumption)
               obtain ⟨ad101,e101,hx101_0,hx101_1,hx101_2,hx101_3⟩ := at_T53 HR0.out x7_1 p101 q101
               cases e101
               replace hx101_0 := (HB.out.cell (World.block_lt_of_cell? w _ hx101_0)).trans hx101_0
               replace hx101_1 := (HB.out.cell (World.block_lt_of_cell? w _ hx101_1)).trans hx101_1
               replace hx101_2 := (HB.out.cell (World.block_lt_of_cell? w _ hx101_2)).trans hx101_2
               replace hx101_3 := (HB.out.cell (World.block_lt_of_cell? w _ hx101_3)).trans hx101_3
               replace p101 := eq_true p101
               replace q101 := eq_true q101
               try go_wp2_with (first | ((with_reducible refine gate_dst (N := 4) rfl ?_);refine box_event ?hg (N := 4) ?hd (cs := #[.string (⟨#[]⟩ : ByteArray),.int .i64 0,.int .i64 0,.int .i64 0]) (t := 53) ?hr ?_;(case hd => rfl);(case hg => rfl);(case hr => first | (go_simp;done) | (go_simp;rfl));intro gb102 hg w30 hbox hb;have n0_ := qq.mk (zv (by repeat (first | (with_reducible first | exact HB.out | apply qj | apply qz | apply qk) | exact HB.out)) hb);have n1_ := qq.mk (hbox);have n2_ := qq.mk ((by rw [hg];exact (zw (by repeat (first | (with_reducible first | exact HB.out | apply qj | apply qz | apply qk) | exact HB.out))) : w.heap.size ≤ gb102));have n3_ := qq.mk ((by rw [hg];exact (zw (by repeat (first | (with_reducible first | exact HB.out | apply qj | apply qz | apply qk) | exact HB.out))) : w.heap.size ≤ gb102));clear HB;have HB := n0_;have BK102 := n1_;have GW102 := n2_;have GE102 := n3_;clear n0_ n1_ n2_ n3_;clear hb hbox hg;have hcz31_0 : w30.cell? ⟨gb102,0,none⟩ = some (.string (⟨#[]⟩ : ByteArray)) := (qw BK102.out 0).trans rfl;have hcz31_1 : w30.cell? ⟨gb102,1,none⟩ = some (.int .i64 0) := (qw BK102.out 1).trans rfl;have hcz31_2 : w30.cell? ⟨gb102,2,none⟩ = some (.int .i64 0) := (qw BK102.out 2).trans rfl;have hcz31_3 : w30.cell? ⟨gb102,3,none⟩ = some (.int .i64 0) := (qw BK102.out 3).trans rfl;have hfz31_0 := qv BK102.out 0;have hfz31_1 := qv BK102.out 1;have hfz31_2 := qv BK102.out 2;have hfz31_3 := qv BK102.out 3))
               have n0_ : qq (((((w30.setCell ⟨gb102,0,none⟩ (.string ((kw l0 x7_1).f0))).setCell ⟨gb102,1,none⟩ (.int .i64 ((kw l0 x7_1).f1))).setCell ⟨gb102,2,none⟩ (.int .i64 ((kw l0 x7_1).f2))).setCell ⟨gb102,3,none⟩ (.int .i64 ((kw l0 x7_1).f3))).heap[gb102]? = some (.cells #[.string ((kw l0 x7_1).f0),.int .i64 ((kw l0 x7_1).f1),.int .i64 ((kw l0 x7_1).f2),.int .i64 ((kw l0 x7_1).f3)] 53 (0,0))) := ⟨by (with_reducible repeat (first | refine zz ?_ _ | refine zj ?_ | refine zq ?_ _));refine blk_put (cs := #[.string ((kw l0 x7_1).f0),.int .i64 ((kw l0 x7_1).f1),.int .i64 ((kw l0 x7_1).f2),.int .i64 0]) ?_ 3 _ rfl;(with_reducible repeat (first | refine zz ?_ _ | refine zj ?_ | refine zq ?_ _));refine blk_put (cs := #[.string ((kw l0 x7_1).f0),.int .i64 ((kw l0 x7_1).f1),.int .i64 0,.int .i64 0]) ?_ 2 _ rfl;(with_reducible repeat (first | refine zz ?_ _ | refine zj ?_ | refine zq ?_ _));refine blk_put (cs := #[.string ((kw l0 x7_1).f0),.int .i64 0,.int .i64 0,.int .i64 0]) ?_ 1 _ rfl;(with_reducible repeat (first | refine zz ?_ _ | refine zj ?_ | refine zq ?_ _));refine blk_put (cs := #[.string (⟨#[]⟩ : ByteArray),.int .i64 0,.int .i64 0,.int .i64 0]) ?_ 0 _ rfl;(with_reducible repeat (first | refine zz ?_ _ | refine zj ?_ | refine zq ?_ _));exact BK102.out⟩
               have n1_ : qq (Below w.heap.size w ((((w30.setCell ⟨gb102,0,none⟩ (.string ((kw l0 x7_1).f0))).setCell ⟨gb102,1,none⟩ (.int .i64 ((kw l0 x7_1).f1))).setCell ⟨gb102,2,none⟩ (.int .i64 ((kw l0 x7_1).f2))).setCell ⟨gb102,3,none⟩ (.int .i64 ((kw l0 x7_1).f3)))) := ⟨by repeat (first | (with_reducible first | exact HB.out | apply qj | apply qz | apply qk | refine qx ?_ GE102.out) | exact HB.out)⟩
               (try clear BK102)
               (try clear HB)
               generalize ((((w30.setCell ⟨gb102,0,none⟩ (.string ((kw l0 x7_1).f0))).setCell ⟨gb102,1,none⟩ (.int .i64 ((kw l0 x7_1).f1))).setCell ⟨gb102,2,none⟩ (.int .i64 ((kw l0 x7_1).f2))).setCell ⟨gb102,3,none⟩ (.int .i64 ((kw l0 x7_1).f3))) = w32 at n0_ n1_ ⊢
               have BK102 := n0_
               have HB := n1_
               clear n0_ n1_
               have p104 : 0 ≤ ((ji8) : Int) := of_decide_eq_true (by assumption)
               have q104 : (ji8) < (l0.length : Int) := of_decide_eq_true (by assumption)
               obtain ⟨ad104,e104,hx104_0,hx104_1,hx104_2,hx104_3⟩ := at_T53 HR0.out (ji8) p104 q104
               have hw104_3 := hx104_3
               have hw104_2 := hx104_2
               have hw104_1 := hx104_1
               have hw104_0 := hx104_0
               obtain rfl : ad101 = ad104 := (by injection e104)
               replace hx104_0 := (HB.out.cell (World.block_lt_of_cell? w _ hx104_0)).trans hx104_0
               replace hx104_1 := (HB.out.cell (World.block_lt_of_cell? w _ hx104_1)).trans hx104_1
               replace hx104_2 := (HB.out.cell (World.block_lt_of_cell? w _ hx104_2)).trans hx104_2
               replace hx104_3 := (HB.out.cell (World.block_lt_of_cell? w _ hx104_3)).trans hx104_3
               replace p104 := eq_true p104
               replace q104 := eq_true q104
               have hS_ := (show (fun w' => w'.cell? ⟨gb102,0,none⟩ = some (.string ((kw l0 x7_1).f0)) ∧ w'.cell? ⟨gb102,1,none⟩ = some (.int .i64 ((kw l0 x7_1).f1)) ∧ w'.cell? ⟨gb102,2,none⟩ = some (.int .i64 ((kw l0 x7_1).f2)) ∧ w'.cell? ⟨gb102,3,none⟩ = some (.int .i64 ((kw l0 x7_1).f3)) ∧ w'.cell? (ad101.add (((ji8)).toNat * 4)) = some (.string ((kw l0 (ji8)).f0)) ∧ w'.cell? ⟨(ad101.add (((ji8)).toNat * 4)).block,(ad101.add (((ji8)).toNat * 4)).off + 1,none⟩ = some (.int .i64 ((kw l0 (ji8)).f1)) ∧ w'.cell? ⟨(ad101.add (((ji8)).toNat * 4)).block,(ad101.add (((ji8)).toNat * 4)).off + 2,none⟩ = some (.int .i64 ((kw l0 (ji8)).f2)) ∧ w'.cell? ⟨(ad101.add (((ji8)).toNat * 4)).block,(ad101.add (((ji8)).toNat * 4)).off + 3,none⟩ = some (.int .i64 ((kw l0 (ji8)).f3))) (w32) from ⟨(qw BK102.out 0).trans rfl,(qw BK102.out 1).trans rfl,(qw BK102.out 2).trans rfl,(qw BK102.out 3).trans rfl,((HB.out.cell (World.block_lt_of_cell? w _ hw104_0)).trans hw104_0),((HB.out.cell (World.block_lt_of_cell? w _ hw104_1)).trans hw104_1),((HB.out.cell (World.block_lt_of_cell? w _ hw104_2)).trans hw104_2),((HB.out.cell (World.block_lt_of_cell? w _ hw104_3)).trans hw104_3)⟩)
               obtain ⟨hS0_,hS1_,hS2_,hS3_,hS4_,hS5_,hS6_,hS7_⟩ := hS_
               go_quiet ((first | (go_at_call 37;exact Calls.quiet_of ((qqx.calls k1 ((kw l0 x7_1).f0) true _ A5.out).mono fun _ _ h => ⟨h.1,h.2.out⟩)) | (go_at_call 38;exact Calls.quiet_of ((qqz.calls k1 ((kw l0 (ji8)).f0) ((kw l0 x7_1).f0) t105 _ A11.out).mono fun _ _ h => ⟨h.1,h.2.out⟩)) | (go_at_call 39;exact Calls.quiet_of ((qqw.calls k1 ((kw l0 x7_1).f1) true _ A17.out).mono fun _ _ h => ⟨h.1,h.2.out⟩))))
               clear hS0_ hS1_ hS2_ hS3_ hS4_ hS5_ hS6_ hS7_
               have n0_ := qq.mk (zz BK102.out nq)
               have n1_ := qq.mk (qz HB.out nq)
               clear BK102
               clear HB
               have BK102 := n0_
               have HB := n1_
               clear n0_ n1_
               replace hx104_0 : (World.drewN w32 nq).cell? _ = _ := hx104_0
               replace hx104_1 : (World.drewN w32 nq).cell? _ = _ := hx104_1
               replace hx104_2 : (World.drewN w32 nq).cell? _ = _ := hx104_2
               replace hx104_3 : (World.drewN w32 nq).cell? _ = _ := hx104_3
               generalize World.drewN w32 nq = w33 at BK102 HB hx104_0 hx104_1 hx104_2 hx104_3 ⊢
               try go_wp2
               go_ret
               exact ⟨by first | rfl | (simp [jk,jj] <;> rfl) | (simp only [← hji8];first | rfl | (simp [jk,jj] <;> rfl)) | (simp [*,jk,jj] <;> rfl),by repeat (first | (with_reducible first | exact HB.out | apply qj | apply qz | apply qk | refine qx ?_ GE102.out) | exact HB.out)⟩
              ·rw [if_neg c29] at H
               have c29b0 : decide (((kw l0 x7_1).f3) < ((kw l0 x7_1).f2)) = false := decide_eq_false c29
               clear c29
               have H' := qq.mk H
               clear H
               have p101 : 0 ≤ (x7_1 : Int) := of_decide_eq_true (by assumption)
               have q101 : x7_1 < (l0.length : Int) := of_decide_eq_true (by assumption)
               obtain ⟨ad101,e101,hx101_0,hx101_1,hx101_2,hx101_3⟩ := at_T53 HR0.out x7_1 p101 q101
               cases e101
               replace hx101_0 := (HB.out.cell (World.block_lt_of_cell? w _ hx101_0)).trans hx101_0
               replace hx101_1 := (HB.out.cell (World.block_lt_of_cell? w _ hx101_1)).trans hx101_1
               replace hx101_2 := (HB.out.cell (World.block_lt_of_cell? w _ hx101_2)).trans hx101_2
               replace hx101_3 := (HB.out.cell (World.block_lt_of_cell? w _ hx101_3)).trans hx101_3
               replace p101 := eq_true p101
               replace q101 := eq_true q101
               try go_wp2_with (first | ((with_reducible refine gate_dst (N := 4) rfl ?_);refine box_event ?hg (N := 4) ?hd (cs := #[.string (⟨#[]⟩ : ByteArray),.int .i64 0,.int .i64 0,.int .i64 0]) (t := 53) ?hr ?_;(case hd => rfl);(case hg => rfl);(case hr => first | (go_simp;done) | (go_simp;rfl));intro gb102 hg w34 hbox hb;have n0_ := qq.mk (zv (by repeat (first | (with_reducible first | exact HB.out | apply qj | apply qz | apply qk) | exact HB.out)) hb);have n1_ := qq.mk (hbox);have n2_ := qq.mk ((by rw [hg];exact (zw (by repeat (first | (with_reducible first | exact HB.out | apply qj | apply qz | apply qk) | exact HB.out))) : w.heap.size ≤ gb102));have n3_ := qq.mk ((by rw [hg];exact (zw (by repeat (first | (with_reducible first | exact HB.out | apply qj | apply qz | apply qk) | exact HB.out))) : w.heap.size ≤ gb102));clear HB;have HB := n0_;have BK102 := n1_;have GW102 := n2_;have GE102 := n3_;clear n0_ n1_ n2_ n3_;clear hb hbox hg;have hcz35_0 : w34.cell? ⟨gb102,0,none⟩ = some (.string (⟨#[]⟩ : ByteArray)) := (qw BK102.out 0).trans rfl;have hcz35_1 : w34.cell? ⟨gb102,1,none⟩ = some (.int .i64 0) := (qw BK102.out 1).trans rfl;have hcz35_2 : w34.cell? ⟨gb102,2,none⟩ = some (.int .i64 0) := (qw BK102.out 2).trans rfl;have hcz35_3 : w34.cell? ⟨gb102,3,none⟩ = some (.int .i64 0) := (qw BK102.out 3).trans rfl;have hfz35_0 := qv BK102.out 0;have hfz35_1 := qv BK102.out 1;have hfz35_2 := qv BK102.out 2;have hfz35_3 := qv BK102.out 3))
               have n0_ : qq (((((w34.setCell ⟨gb102,0,none⟩ (.string ((kw l0 x7_1).f0))).setCell ⟨gb102,1,none⟩ (.int .i64 ((kw l0 x7_1).f1))).setCell ⟨gb102,2,none⟩ (.int .i64 ((kw l0 x7_1).f2))).setCell ⟨gb102,3,none⟩ (.int .i64 ((kw l0 x7_1).f3))).heap[gb102]? = some (.cells #[.string ((kw l0 x7_1).f0),.int .i64 ((kw l0 x7_1).f1),.int .i64 ((kw l0 x7_1).f2),.int .i64 ((kw l0 x7_1).f3)] 53 (0,0))) := ⟨by (with_reducible repeat (first | refine zz ?_ _ | refine zj ?_ | refine zq ?_ _));refine blk_put (cs := #[.string ((kw l0 x7_1).f0),.int .i64 ((kw l0 x7_1).f1),.int .i64 ((kw l0 x7_1).f2),.int .i64 0]) ?_ 3 _ rfl;(with_reducible repeat (first | refine zz ?_ _ | refine zj ?_ | refine zq ?_ _));refine blk_put (cs := #[.string ((kw l0 x7_1).f0),.int .i64 ((kw l0 x7_1).f1),.int .i64 0,.int .i64 0]) ?_ 2 _ rfl;(with_reducible repeat (first | refine zz ?_ _ | refine zj ?_ | refine zq ?_ _));refine blk_put (cs := #[.string ((kw l0 x7_1).f0),.int .i64 0,.int .i64 0,.int .i64 0]) ?_ 1 _ rfl;(with_reducible repeat (first | refine zz ?_ _ | refine zj ?_ | refine zq ?_ _));refine blk_put (cs := #[.string (⟨#[]⟩ : ByteArray),.int .i64 0,.int .i64 0,.int .i64 0]) ?_ 0 _ rfl;(with_reducible repeat (first | refine zz ?_ _ | refine zj ?_ | refine zq ?_ _));exact BK102.out⟩
               have n1_ : qq (Below w.heap.size w ((((w34.setCell ⟨gb102,0,none⟩ (.string ((kw l0 x7_1).f0))).setCell ⟨gb102,1,none⟩ (.int .i64 ((kw l0 x7_1).f1))).setCell ⟨gb102,2,none⟩ (.int .i64 ((kw l0 x7_1).f2))).setCell ⟨gb102,3,none⟩ (.int .i64 ((kw l0 x7_1).f3)))) := ⟨by repeat (first | (with_reducible first | exact HB.out | apply qj | apply qz | apply qk | refine qx ?_ GE102.out) | exact HB.out)⟩
               (try clear BK102)
               (try clear HB)
               generalize ((((w34.setCell ⟨gb102,0,none⟩ (.string ((kw l0 x7_1).f0))).setCell ⟨gb102,1,none⟩ (.int .i64 ((kw l0 x7_1).f1))).setCell ⟨gb102,2,none⟩ (.int .i64 ((kw l0 x7_1).f2))).setCell ⟨gb102,3,none⟩ (.int .i64 ((kw l0 x7_1).f3))) = w36 at n0_ n1_ ⊢
               have BK102 := n0_
               have HB := n1_
               clear n0_ n1_
               have p104 : 0 ≤ ((ji8) : Int) := of_decide_eq_true (by assumption)
               have q104 : (ji8) < (l0.length : Int) := of_decide_eq_true (by assumption)
               obtain ⟨ad104,e104,hx104_0,hx104_1,hx104_2,hx104_3⟩ := at_T53 HR0.out (ji8) p104 q104
               have hw104_3 := hx104_3
               have hw104_2 := hx104_2
               have hw104_1 := hx104_1
               have hw104_0 := hx104_0
               obtain rfl : ad101 = ad104 := (by injection e104)
               replace hx104_0 := (HB.out.cell (World.block_lt_of_cell? w _ hx104_0)).trans hx104_0
               replace hx104_1 := (HB.out.cell (World.block_lt_of_cell? w _ hx104_1)).trans hx104_1
               replace hx104_2 := (HB.out.cell (World.block_lt_of_cell? w _ hx104_2)).trans hx104_2
               replace hx104_3 := (HB.out.cell (World.block_lt_of_cell? w _ hx104_3)).trans hx104_3
               replace p104 := eq_true p104
               replace q104 := eq_true q104
               have hS_ := (show (fun w' => w'.cell? ⟨gb102,0,none⟩ = some (.string ((kw l0 x7_1).f0)) ∧ w'.cell? ⟨gb102,1,none⟩ = some (.int .i64 ((kw l0 x7_1).f1)) ∧ w'.cell? ⟨gb102,2,none⟩ = some (.int .i64 ((kw l0 x7_1).f2)) ∧ w'.cell? ⟨gb102,3,none⟩ = some (.int .i64 ((kw l0 x7_1).f3)) ∧ w'.cell? (ad101.add (((ji8)).toNat * 4)) = some (.string ((kw l0 (ji8)).f0)) ∧ w'.cell? ⟨(ad101.add (((ji8)).toNat * 4)).block,(ad101.add (((ji8)).toNat * 4)).off + 1,none⟩ = some (.int .i64 ((kw l0 (ji8)).f1)) ∧ w'.cell? ⟨(ad101.add (((ji8)).toNat * 4)).block,(ad101.add (((ji8)).toNat * 4)).off + 2,none⟩ = some (.int .i64 ((kw l0 (ji8)).f2)) ∧ w'.cell? ⟨(ad101.add (((ji8)).toNat * 4)).block,(ad101.add (((ji8)).toNat * 4)).off + 3,none⟩ = some (.int .i64 ((kw l0 (ji8)).f3))) (w36) from ⟨(qw BK102.out 0).trans rfl,(qw BK102.out 1).trans rfl,(qw BK102.out 2).trans rfl,(qw BK102.out 3).trans rfl,((HB.out.cell (World.block_lt_of_cell? w _ hw104_0)).trans hw104_0),((HB.out.cell (World.block_lt_of_cell? w _ hw104_1)).trans hw104_1),((HB.out.cell (World.block_lt_of_cell? w _ hw104_2)).trans hw104_2),((HB.out.cell (World.block_lt_of_cell? w _ hw104_3)).trans hw104_3)⟩)
               obtain ⟨hS0_,hS1_,hS2_,hS3_,hS4_,hS5_,hS6_,hS7_⟩ := hS_
               go_quiet ((first | (go_at_call 37;exact Calls.quiet_of ((qqx.calls k1 ((kw l0 x7_1).f0) true _ A5.out).mono fun _ _ h => ⟨h.1,h.2.out⟩)) | (go_at_call 38;exact Calls.quiet_of ((qqz.calls k1 ((kw l0 (ji8)).f0) ((kw l0 x7_1).f0) t105 _ A11.out).mono fun _ _ h => ⟨h.1,h.2.out⟩)) | (go_at_call 39;exact Calls.quiet_of ((qqw.calls k1 ((kw l0 x7_1).f1) true _ A17.out).mono fun _ _ h => ⟨h.1,h.2.out⟩))))
               clear hS0_ hS1_ hS2_ hS3_ hS4_ hS5_ hS6_ hS7_
               have n0_ := qq.mk (zz BK102.out nq)
               have n1_ := qq.mk (qz HB.out nq)
               clear BK102
               clear HB
               have BK102 := n0_
               have HB := n1_
               clear n0_ n1_
               replace hx104_0 : (World.drewN w36 nq).cell? _ = _ := hx104_0
               replace hx104_1 : (World.drewN w36 nq).cell? _ = _ := hx104_1
               replace hx104_2 : (World.drewN w36 nq).cell? _ = _ := hx104_2
               replace hx104_3 : (World.drewN w36 nq).cell? _ = _ := hx104_3
               generalize World.drewN w36 nq = w37 at BK102 HB hx104_0 hx104_1 hx104_2 hx104_3 ⊢
               try go_wp2
               go_roundg k1
               case measure => have := HK1.out;omega
               case rel => exact ⟨(wrap64 (x7_1 + 1)),(by first | rfl | (simp;done) | (simp [*];done)),H',⟨by have := HK1.out;omega⟩,⟨by repeat (first | (with_reducible first | exact HB.out | apply qj | apply qz | apply qk | refine qx ?_ GE102.out) | exact HB.out)⟩⟩
           ·replace c18 := Bool.eq_false_iff.mpr c18
            subst c18
            have H1 : (some false) = some r := by rw [if_neg (show ¬ (false = true) by decide)] at H;exact H
            clear H
            have H := H1
            clear H1
            obtain rfl := Option.some.inj H
            have p101 : 0 ≤ (x7_1 : Int) := of_decide_eq_true (by assumption)
            have q101 : x7_1 < (l0.length : Int) := of_decide_eq_true (by assumption)
            obtain ⟨ad101,e101,hx101_0,hx101_1,hx101_2,hx101_3⟩ := at_T53 HR0.out x7_1 p101 q101
            cases e101
            replace hx101_0 := (HB.out.cell (World.block_lt_of_cell? w _ hx101_0)).trans hx101_0
            replace hx101_1 := (HB.out.cell (World.block_lt_of_cell? w _ hx101_1)).trans hx101_1
            replace hx101_2 := (HB.out.cell (World.block_lt_of_cell? w _ hx101_2)).trans hx101_2
            replace hx101_3 := (HB.out.cell (World.block_lt_of_cell? w _ hx101_3)).trans hx101_3
            replace p101 := eq_true p101
            replace q101 := eq_true q101
            try go_wp2_with (first | ((with_reducible refine gate_dst (N := 4) rfl ?_);refine box_event ?hg (N := 4) ?hd (cs := #[.string (⟨#[]⟩ : ByteArray),.int .i64 0,.int .i64 0,.int .i64 0]) (t := 53) ?hr ?_;(case hd => rfl);(case hg => rfl);(case hr => first | (go_simp;done) | (go_simp;rfl));intro gb102 hg w38 hbox hb;have n0_ := qq.mk (zv (by repeat (first | (with_reducible first | exact HB.out | apply qj | apply qz | apply qk) | exact HB.out)) hb);have n1_ := qq.mk (hbox);have n2_ := qq.mk ((by rw [hg];exact (zw (by repeat (first | (with_reducible first | exact HB.out | apply qj | apply qz | apply qk) | exact HB.out))) : w.heap.size ≤ gb102));have n3_ := qq.mk ((by rw [hg];exact (zw (by repeat (first | (with_reducible first | exact HB.out | apply qj | apply qz | apply qk) | exact HB.out))) : w.heap.size ≤ gb102));clear HB;have HB := n0_;have BK102 := n1_;have GW102 := n2_;have GE102 := n3_;clear n0_ n1_ n2_ n3_;clear hb hbox hg;have hcz39_0 : w38.cell? ⟨gb102,0,none⟩ = some (.string (⟨#[]⟩ : ByteArray)) := (qw BK102.out 0).trans rfl;have hcz39_1 : w38.cell? ⟨gb102,1,none⟩ = some (.int .i64 0) := (qw BK102.out 1).trans rfl;have hcz39_2 : w38.cell? ⟨gb102,2,none⟩ = some (.int .i64 0) := (qw BK102.out 2).trans rfl;have hcz39_3 : w38.cell? ⟨gb102,3,none⟩ = some (.int .i64 0) := (qw BK102.out 3).trans rfl;have hfz39_0 := qv BK102.out 0;have hfz39_1 := qv BK102.out 1;have hfz39_2 := qv BK102.out 2;have hfz39_3 := qv BK102.out 3))
            have n0_ : qq (((((w38.setCell ⟨gb102,0,none⟩ (.string ((kw l0 x7_1).f0))).setCell ⟨gb102,1,none⟩ (.int .i64 ((kw l0 x7_1).f1))).setCell ⟨gb102,2,none⟩ (.int .i64 ((kw l0 x7_1).f2))).setCell ⟨gb102,3,none⟩ (.int .i64 ((kw l0 x7_1).f3))).heap[gb102]? = some (.cells #[.string ((kw l0 x7_1).f0),.int .i64 ((kw l0 x7_1).f1),.int .i64 ((kw l0 x7_1).f2),.int .i64 ((kw l0 x7_1).f3)] 53 (0,0))) := ⟨by (with_reducible repeat (first | refine zz ?_ _ | refine zj ?_ | refine zq ?_ _));refine blk_put (cs := #[.string ((kw l0 x7_1).f0),.int .i64 ((kw l0 x7_1).f1),.int .i64 ((kw l0 x7_1).f2),.int .i64 0]) ?_ 3 _ rfl;(with_reducible repeat (first | refine zz ?_ _ | refine zj ?_ | refine zq ?_ _));refine blk_put (cs := #[.string ((kw l0 x7_1).f0),.int .i64 ((kw l0 x7_1).f1),.int .i64 0,.int .i64 0]) ?_ 2 _ rfl;(with_reducible repeat (first | refine zz ?_ _ | refine zj ?_ | refine zq ?_ _));refine blk_put (cs := #[.string ((kw l0 x7_1).f0),.int .i64 0,.int .i64 0,.int .i64 0]) ?_ 1 _ rfl;(with_reducible repeat (first | refine zz ?_ _ | refine zj ?_ | refine zq ?_ _));refine blk_put (cs := #[.string (⟨#[]⟩ : ByteArray),.int .i64 0,.int .i64 0,.int .i64 0]) ?_ 0 _ rfl;(with_reducible repeat (first | refine zz ?_ _ | refine zj ?_ | refine zq ?_ _));exact BK102.out⟩
            have n1_ : qq (Below w.heap.size w ((((w38.setCell ⟨gb102,0,none⟩ (.string ((kw l0 x7_1).f0))).setCell ⟨gb102,1,none⟩ (.int .i64 ((kw l0 x7_1).f1))).setCell ⟨gb102,2,none⟩ (.int .i64 ((kw l0 x7_1).f2))).setCell ⟨gb102,3,none⟩ (.int .i64 ((kw l0 x7_1).f3)))) := ⟨by repeat (first | (with_reducible first | exact HB.out | apply qj | apply qz | apply qk | refine qx ?_ GE102.out) | exact HB.out)⟩
            (try clear BK102)
            (try clear HB)
            generalize ((((w38.setCell ⟨gb102,0,none⟩ (.string ((kw l0 x7_1).f0))).setCell ⟨gb102,1,none⟩ (.int .i64 ((kw l0 x7_1).f1))).setCell ⟨gb102,2,none⟩ (.int .i64 ((kw l0 x7_1).f2))).setCell ⟨gb102,3,none⟩ (.int .i64 ((kw l0 x7_1).f3))) = w40 at n0_ n1_ ⊢
            have BK102 := n0_
            have HB := n1_
            clear n0_ n1_
            have p104 : 0 ≤ ((ji8) : Int) := of_decide_eq_true (by assumption)
            have q104 : (ji8) < (l0.length : Int) := of_decide_eq_true (by assumption)
            obtain ⟨ad104,e104,hx104_0,hx104_1,hx104_2,hx104_3⟩ := at_T53 HR0.out (ji8) p104 q104
            have hw104_3 := hx104_3
            have hw104_2 := hx104_2
            have hw104_1 := hx104_1
            have hw104_0 := hx104_0
            obtain rfl : ad101 = ad104 := (by injection e104)
            replace hx104_0 := (HB.out.cell (World.block_lt_of_cell? w _ hx104_0)).trans hx104_0
            replace hx104_1 := (HB.out.cell (World.block_lt_of_cell? w _ hx104_1)).trans hx104_1
            replace hx104_2 := (HB.out.cell (World.block_lt_of_cell? w _ hx104_2)).trans hx104_2
            replace hx104_3 := (HB.out.cell (World.block_lt_of_cell? w _ hx104_3)).trans hx104_3
            replace p104 := eq_true p104
            replace q104 := eq_true q104
            have hS_ := (show (fun w' => w'.cell? ⟨gb102,0,none⟩ = some (.string ((kw l0 x7_1).f0)) ∧ w'.cell? ⟨gb102,1,none⟩ = some (.int .i64 ((kw l0 x7_1).f1)) ∧ w'.cell? ⟨gb102,2,none⟩ = some (.int .i64 ((kw l0 x7_1).f2)) ∧ w'.cell? ⟨gb102,3,none⟩ = some (.int .i64 ((kw l0 x7_1).f3)) ∧ w'.cell? (ad101.add (((ji8)).toNat * 4)) = some (.string ((kw l0 (ji8)).f0)) ∧ w'.cell? ⟨(ad101.add (((ji8)).toNat * 4)).block,(ad101.add (((ji8)).toNat * 4)).off + 1,none⟩ = some (.int .i64 ((kw l0 (ji8)).f1)) ∧ w'.cell? ⟨(ad101.add (((ji8)).toNat * 4)).block,(ad101.add (((ji8)).toNat * 4)).off + 2,none⟩ = some (.int .i64 ((kw l0 (ji8)).f2)) ∧ w'.cell? ⟨(ad101.add (((ji8)).toNat * 4)).block,(ad101.add (((ji8)).toNat * 4)).off + 3,none⟩ = some (.int .i64 ((kw l0 (ji8)).f3))) (w40) from ⟨(qw BK102.out 0).trans rfl,(qw BK102.out 1).trans rfl,(qw BK102.out 2).trans rfl,(qw BK102.out 3).trans rfl,((HB.out.cell (World.block_lt_of_cell? w _ hw104_0)).trans hw104_0),((HB.out.cell (World.block_lt_of_cell? w _ hw104_1)).trans hw104_1),((HB.out.cell (World.block_lt_of_cell? w _ hw104_2)).trans hw104_2),((HB.out.cell (World.block_lt_of_cell? w _ hw104_3)).trans hw104_3)⟩)
            obtain ⟨hS0_,hS1_,hS2_,hS3_,hS4_,hS5_,hS6_,hS7_⟩ := hS_
            go_quiet ((first | (go_at_call 37;exact Calls.quiet_of ((qqx.calls k1 ((kw l0 x7_1).f0) true _ A5.out).mono fun _ _ h => ⟨h.1,h.2.out⟩)) | (go_at_call 38;exact Calls.quiet_of ((qqz.calls k1 ((kw l0 (ji8)).f0) ((kw l0 x7_1).f0) t105 _ A11.out).mono fun _ _ h => ⟨h.1,h.2.out⟩)) | (go_at_call 39;exact Calls.quiet_of ((qqw.calls k1 ((kw l0 x7_1).f1) false _ A17.out).mono fun _ _ h => ⟨h.1,h.2.out⟩))))
            clear hS0_ hS1_ hS2_ hS3_ hS4_ hS5_ hS6_ hS7_
            have n0_ := qq.mk (zz BK102.out nq)
            have n1_ := qq.mk (qz HB.out nq)
            clear BK102
            clear HB
            have BK102 := n0_
            have HB := n1_
            clear n0_ n1_
            replace hx104_0 : (World.drewN w40 nq).cell? _ = _ := hx104_0
            replace hx104_1 : (World.drewN w40 nq).cell? _ = _ := hx104_1
            replace hx104_2 : (World.drewN w40 nq).cell? _ = _ := hx104_2
            replace hx104_3 : (World.drewN w40 nq).cell? _ = _ := hx104_3
            generalize World.drewN w40 nq = w41 at BK102 HB hx104_0 hx104_1 hx104_2 hx104_3 ⊢
            try go_wp2
            go_ret
            exact ⟨by first | rfl | (simp [jk,jj] <;> rfl) | (simp only [← hji8];first | rfl | (simp [jk,jj] <;> rfl)) | (simp [*,jk,jj] <;> rfl),by repeat (first | (with_reducible first | exact HB.out | apply qj | apply qz | apply qk | refine qx ?_ GE102.out) | exact HB.out)⟩
         ·rw [if_neg c10] at H
          exact absurd H (by simp)
        ·rw [if_neg c9] at H
         exact absurd H (by simp)
       ·rw [if_neg c7] at H
        have c7b0 : decide (0 < x7_1) = false := decide_eq_false c7
        clear c7
        replace H := Option.bind_eq_some_iff.mp H
        obtain ⟨t107,A420,H⟩ := H
        replace H : (if t107 = true then (if ((kw l0 x7_1).f2) < 0 then (some false) else (if ((kw l0 x7_1).f3) > 100000000000 then (some false) else (if ((kw l0 x7_1).f2) > ((kw l0 x7_1).f3) then (some false) else (xv.l0 k1 l0 l0 (l0.length : Int) (wrap64 (x7_1 + 1)))))) else (some false)) = some r := H
        have A42 := qq.mk A420
        clear A420
        by_cases c43 : t107 = true
        ·subst c43
         have H1 : (if ((kw l0 x7_1).f2) < 0 then (some false) else (if ((kw l0 x7_1).f3) > 100000000000 then (some false) else (if ((kw l0 x7_1).f2) > ((kw l0 x7_1).f3) then (some false) else (xv.l0 k1 l0 l0 (l0.length : Int) (wrap64 (x7_1 + 1)))))) = some r := by rw [if_pos rfl] at H;exact H
         clear H
         have H := H1
         clear H1
         by_cases c44 : ((kw l0 x7_1).f2) < 0
         ·rw [if_pos c44] at H
          have c44b0 : decide (((kw l0 x7_1).f2) < 0) = true := decide_eq_true c44
          clear c44
          obtain rfl := Option.some.inj H
          have p101 : 0 ≤ (x7_1 : Int) := of_decide_eq_true (by assumption)
          have q101 : x7_1 < (l0.length : Int) := of_decide_eq_true (by assumption)
          obtain ⟨ad101,e101,hx101_0,hx101_1,hx101_2,hx101_3⟩ := at_T53 HR0.out x7_1 p101 q101
          cases e101
          replace hx101_0 := (HB.out.cell (World.block_lt_of_cell? w _ hx101_0)).trans hx101_0
          replace hx101_1 := (HB.out.cell (World.block_lt_of_cell? w _ hx101_1)).trans hx101_1
          replace hx101_2 := (HB.out.cell (World.block_lt_of_cell? w _ hx101_2)).trans hx101_2
          replace hx101_3 := (HB.out.cell (World.block_lt_of_cell? w _ hx101_3)).trans hx101_3
          replace p101 := eq_true p101
          replace q101 := eq_true q101
          try go_wp2_with (first | ((with_reducible refine gate_dst (N := 4) rfl ?_);refine box_event ?hg (N := 4) ?hd (cs := #[.string (⟨#[]⟩ : ByteArray),.int .i64 0,.int .i64 0,.int .i64 0]) (t := 53) ?hr ?_;(case hd => rfl);(case hg => rfl);(case hr => first | (go_simp;done) | (go_simp;rfl));intro gb102 hg w45 hbox hb;have n0_ := qq.mk (zv (by repeat (first | (with_reducible first | exact HB.out | apply qj | apply qz | apply qk) | exact HB.out)) hb);have n1_ := qq.mk (hbox);have n2_ := qq.mk ((by rw [hg];exact (zw (by repeat (first | (with_reducible first | exact HB.out | apply qj | apply qz | apply qk) | exact HB.out))) : w.heap.size ≤ gb102));have n3_ := qq.mk ((by rw [hg];exact (zw (by repeat (first | (with_reducible first | exact HB.out | apply qj | apply qz | apply qk) | exact HB.out))) : w.heap.size ≤ gb102));clear HB;have HB := n0_;have BK102 := n1_;have GW102 := n2_;have GE102 := n3_;clear n0_ n1_ n2_ n3_;clear hb hbox hg;have hcz46_0 : w45.cell? ⟨gb102,0,none⟩ = some (.string (⟨#[]⟩ : ByteArray)) := (qw BK102.out 0).trans rfl;have hcz46_1 : w45.cell? ⟨gb102,1,none⟩ = some (.int .i64 0) := (qw BK102.out 1).trans rfl;have hcz46_2 : w45.cell? ⟨gb102,2,none⟩ = some (.int .i64 0) := (qw BK102.out 2).trans rfl;have hcz46_3 : w45.cell? ⟨gb102,3,none⟩ = some (.int .i64 0) := (qw BK102.out 3).trans rfl;have hfz46_0 := qv BK102.out 0;have hfz46_1 := qv BK102.out 1;have hfz46_2 := qv BK102.out 2;have hfz46_3 := qv BK102.out 3))
          have n0_ : qq (((((w45.setCell ⟨gb102,0,none⟩ (.string ((kw l0 x7_1).f0))).setCell ⟨gb102,1,none⟩ (.int .i64 ((kw l0 x7_1).f1))).setCell ⟨gb102,2,none⟩ (.int .i64 ((kw l0 x7_1).f2))).setCell ⟨gb102,3,none⟩ (.int .i64 ((kw l0 x7_1).f3))).heap[gb102]? = some (.cells #[.string ((kw l0 x7_1).f0),.int .i64 ((kw l0 x7_1).f1),.int .i64 ((kw l0 x7_1).f2),.int .i64 ((kw l0 x7_1).f3)] 53 (0,0))) := ⟨by (with_reducible repeat (first | refine zz ?_ _ | refine zj ?_ | refine zq ?_ _));refine blk_put (cs := #[.string ((kw l0 x7_1).f0),.int .i64 ((kw l0 x7_1).f1),.int .i64 ((kw l0 x7_1).f2),.int .i64 0]) ?_ 3 _ rfl;(with_reducible repeat (first | refine zz ?_ _ | refine zj ?_ | refine zq ?_ _));refine blk_put (cs := #[.string ((kw l0 x7_1).f0),.int .i64 ((kw l0 x7_1).f1),.int .i64 0,.int .i64 0]) ?_ 2 _ rfl;(with_reducible repeat (first | refine zz ?_ _ | refine zj ?_ | refine zq ?_ _));refine blk_put (cs := #[.string ((kw l0 x7_1).f0),.int .i64 0,.int .i64 0,.int .i64 0]) ?_ 1 _ rfl;(with_reducible repeat (first | refine zz ?_ _ | refine zj ?_ | refine zq ?_ _));refine blk_put (cs := #[.string (⟨#[]⟩ : ByteArray),.int .i64 0,.int .i64 0,.int .i64 0]) ?_ 0 _ rfl;(with_reducible repeat (first | refine zz ?_ _ | refine zj ?_ | refine zq ?_ _));exact BK102.out⟩
          have n1_ : qq (Below w.heap.size w ((((w45.setCell ⟨gb102,0,none⟩ (.string ((kw l0 x7_1).f0))).setCell ⟨gb102,1,none⟩ (.int .i64 ((kw l0 x7_1).f1))).setCell ⟨gb102,2,none⟩ (.int .i64 ((kw l0 x7_1).f2))).setCell ⟨gb102,3,none⟩ (.int .i64 ((kw l0 x7_1).f3)))) := ⟨by repeat (first | (with_reducible first | exact HB.out | apply qj | apply qz | apply qk | refine qx ?_ GE102.out) | exact HB.out)⟩
          (try clear BK102)
          (try clear HB)
          generalize ((((w45.setCell ⟨gb102,0,none⟩ (.string ((kw l0 x7_1).f0))).setCell ⟨gb102,1,none⟩ (.int .i64 ((kw l0 x7_1).f1))).setCell ⟨gb102,2,none⟩ (.int .i64 ((kw l0 x7_1).f2))).setCell ⟨gb102,3,none⟩ (.int .i64 ((kw l0 x7_1).f3))) = w47 at n0_ n1_ ⊢
          have BK102 := n0_
          have HB := n1_
          clear n0_ n1_
          have hS_ := (show (fun w' => w'.cell? ⟨gb102,0,none⟩ = some (.string ((kw l0 x7_1).f0)) ∧ w'.cell? ⟨gb102,1,none⟩ = some (.int .i64 ((kw l0 x7_1).f1)) ∧ w'.cell? ⟨gb102,2,none⟩ = some (.int .i64 ((kw l0 x7_1).f2)) ∧ w'.cell? ⟨gb102,3,none⟩ = some (.int .i64 ((kw l0 x7_1).f3))) (w47) from ⟨(qw BK102.out 0).trans rfl,(qw BK102.out 1).trans rfl,(qw BK102.out 2).trans rfl,(qw BK102.out 3).trans rfl⟩)
          obtain ⟨hS0_,hS1_,hS2_,hS3_⟩ := hS_
          go_quiet ((first | (go_at_call 37;exact Calls.quiet_of ((qqx.calls k1 ((kw l0 x7_1).f0) true _ A5.out).mono fun _ _ h => ⟨h.1,h.2.out⟩)) | (go_at_call 39;exact Calls.quiet_of ((qqw.calls k1 ((kw l0 x7_1).f1) true _ A42.out).mono fun _ _ h => ⟨h.1,h.2.out⟩))))
          clear hS0_ hS1_ hS2_ hS3_
          have n0_ := qq.mk (zz BK102.out nq)
          have n1_ := qq.mk (qz HB.out nq)
          clear BK102
          clear HB
          have BK102 := n0_
          have HB := n1_
          clear n0_ n1_
          generalize World.drewN w47 nq = w48 at BK102 HB ⊢
          try go_wp2
          go_ret
          exact ⟨by first | rfl | (simp [*,jk,jj] <;> rfl),by repeat (first | (with_reducible first | exact HB.out | apply qj | apply qz | apply qk | refine qx ?_ GE102.out) | exact HB.out)⟩
         ·rw [if_neg c44] at H
          have c44b0 : decide (((kw l0 x7_1).f2) < 0) = false := decide_eq_false c44
          clear c44
          by_cases c49 : ((kw l0 x7_1).f3) > 100000000000
          ·rw [if_pos c49] at H
           have c49b0 : decide (100000000000 < ((kw l0 x7_1).f3)) = true := decide_eq_true c49
           clear c49
           obtain rfl := Option.some.inj H
           have p101 : 0 ≤ (x7_1 : Int) := of_decide_eq_true (by assumption)
           have q101 : x7_1 < (l0.length : Int) := of_decide_eq_true (by assumption)
           obtain ⟨ad101,e101,hx101_0,hx101_1,hx101_2,hx101_3⟩ := at_T53 HR0.out x7_1 p101 q101
           cases e101
           replace hx101_0 := (HB.out.cell (World.block_lt_of_cell? w _ hx101_0)).trans hx101_0
           replace hx101_1 := (HB.out.cell (World.block_lt_of_cell? w _ hx101_1)).trans hx101_1
           replace hx101_2 := (HB.out.cell (World.block_lt_of_cell? w _ hx101_2)).trans hx101_2
           replace hx101_3 := (HB.out.cell (World.block_lt_of_cell? w _ hx101_3)).trans hx101_3
           replace p101 := eq_true p101
           replace q101 := eq_true q101
           try go_wp2_with (first | ((with_reducible refine gate_dst (N := 4) rfl ?_);refine box_event ?hg (N := 4) ?hd (cs := #[.string (⟨#[]⟩ : ByteArray),.int .i64 0,.int .i64 0,.int .i64 0]) (t := 53) ?hr ?_;(case hd => rfl);(case hg => rfl);(case hr => first | (go_simp;done) | (go_simp;rfl));intro gb102 hg w50 hbox hb;have n0_ := qq.mk (zv (by repeat (first | (with_reducible first | exact HB.out | apply qj | apply qz | apply qk) | exact HB.out)) hb);have n1_ := qq.mk (hbox);have n2_ := qq.mk ((by rw [hg];exact (zw (by repeat (first | (with_reducible first | exact HB.out | apply qj | apply qz | apply qk) | exact HB.out))) : w.heap.size ≤ gb102));have n3_ := qq.mk ((by rw [hg];exact (zw (by repeat (first | (with_reducible first | exact HB.out | apply qj | apply qz | apply qk) | exact HB.out))) : w.heap.size ≤ gb102));clear HB;have HB := n0_;have BK102 := n1_;have GW102 := n2_;have GE102 := n3_;clear n0_ n1_ n2_ n3_;clear hb hbox hg;have hcz51_0 : w50.cell? ⟨gb102,0,none⟩ = some (.string (⟨#[]⟩ : ByteArray)) := (qw BK102.out 0).trans rfl;have hcz51_1 : w50.cell? ⟨gb102,1,none⟩ = some (.int .i64 0) := (qw BK102.out 1).trans rfl;have hcz51_2 : w50.cell? ⟨gb102,2,none⟩ = some (.int .i64 0) := (qw BK102.out 2).trans rfl;have hcz51_3 : w50.cell? ⟨gb102,3,none⟩ = some (.int .i64 0) := (qw BK102.out 3).trans rfl;have hfz51_0 := qv BK102.out 0;have hfz51_1 := qv BK102.out 1;have hfz51_2 := qv BK102.out 2;have hfz51_3 := qv BK102.out 3))
           have n0_ : qq (((((w50.setCell ⟨gb102,0,none⟩ (.string ((kw l0 x7_1).f0))).setCell ⟨gb102,1,none⟩ (.int .i64 ((kw l0 x7_1).f1))).setCell ⟨gb102,2,none⟩ (.int .i64 ((kw l0 x7_1).f2))).setCell ⟨gb102,3,none⟩ (.int .i64 ((kw l0 x7_1).f3))).heap[gb102]? = some (.cells #[.string ((kw l0 x7_1).f0),.int .i64 ((kw l0 x7_1).f1),.int .i64 ((kw l0 x7_1).f2),.int .i64 ((kw l0 x7_1).f3)] 53 (0,0))) := ⟨by (with_reducible repeat (first | refine zz ?_ _ | refine zj ?_ | refine zq ?_ _));refine blk_put (cs := #[.string ((kw l0 x7_1).f0),.int .i64 ((kw l0 x7_1).f1),.int .i64 ((kw l0 x7_1).f2),.int .i64 0]) ?_ 3 _ rfl;(with_reducible repeat (first | refine zz ?_ _ | refine zj ?_ | refine zq ?_ _));refine blk_put (cs := #[.string ((kw l0 x7_1).f0),.int .i64 ((kw l0 x7_1).f1),.int .i64 0,.int .i64 0]) ?_ 2 _ rfl;(with_reducible repeat (first | refine zz ?_ _ | refine zj ?_ | refine zq ?_ _));refine blk_put (cs := #[.string ((kw l0 x7_1).f0),.int .i64 0,.int .i64 0,.int .i64 0]) ?_ 1 _ rfl;(with_reducible repeat (first | refine zz ?_ _ | refine zj ?_ | refine zq ?_ _));refine blk_put (cs := #[.string (⟨#[]⟩ : ByteArray),.int .i64 0,.int .i64 0,.int .i64 0]) ?_ 0 _ rfl;(with_reducible repeat (first | refine zz ?_ _ | refine zj ?_ | refine zq ?_ _));exact BK102.out⟩
           have n1_ : qq (Below w.heap.size w ((((w50.setCell ⟨gb102,0,none⟩ (.string ((kw l0 x7_1).f0))).setCell ⟨gb102,1,none⟩ (.int .i64 ((kw l0 x7_1).f1))).setCell ⟨gb102,2,none⟩ (.int .i64 ((kw l0 x7_1).f2))).setCell ⟨gb102,3,none⟩ (.int .i64 ((kw l0 x7_1).f3)))) := ⟨by repeat (first | (with_reducible first | exact HB.out | apply qj | apply qz | apply qk | refine qx ?_ GE102.out) | exact HB.out)⟩
           (try clear BK102)
           (try clear HB)
           generalize ((((w50.setCell ⟨gb102,0,none⟩ (.string ((kw l0 x7_1).f0))).setCell ⟨gb102,1,none⟩ (.int .i64 ((kw l0 x7_1).f1))).setCell ⟨gb102,2,none⟩ (.int .i64 ((kw l0 x7_1).f2))).setCell ⟨gb102,3,none⟩ (.int .i64 ((kw l0 x7_1).f3))) = w52 at n0_ n1_ ⊢
           have BK102 := n0_
           have HB := n1_
           clear n0_ n1_
           have hS_ := (show (fun w' => w'.cell? ⟨gb102,0,none⟩ = some (.string ((kw l0 x7_1).f0)) ∧ w'.cell? ⟨gb102,1,none⟩ = some (.int .i64 ((kw l0 x7_1).f1)) ∧ w'.cell? ⟨gb102,2,none⟩ = some (.int .i64 ((kw l0 x7_1).f2)) ∧ w'.cell? ⟨gb102,3,none⟩ = some (.int .i64 ((kw l0 x7_1).f3))) (w52) from ⟨(qw BK102.out 0).trans rfl,(qw BK102.out 1).trans rfl,(qw BK102.out 2).trans rfl,(qw BK102.out 3).trans rfl⟩)
           obtain ⟨hS0_,hS1_,hS2_,hS3_⟩ := hS_
           go_quiet ((first | (go_at_call 37;exact Calls.quiet_of ((qqx.calls k1 ((kw l0 x7_1).f0) true _ A5.out).mono fun _ _ h => ⟨h.1,h.2.out⟩)) | (go_at_call 39;exact Calls.quiet_of ((qqw.calls k1 ((kw l0 x7_1).f1) true _ A42.out).mono fun _ _ h => ⟨h.1,h.2.out⟩))))
           clear hS0_ hS1_ hS2_ hS3_
           have n0_ := qq.mk (zz BK102.out nq)
           have n1_ := qq.mk (qz HB.out nq)
           clear BK102
           clear HB
           have BK102 := n0_
           have HB := n1_
           clear n0_ n1_
           generalize World.drewN w52 nq = w53 at BK102 HB ⊢
           try go_wp2
           go_ret
           exact ⟨by first | rfl | (simp [*,jk,jj] <;> rfl),by repeat (first | (with_reducible first | exact HB.out | apply qj | apply qz | apply qk | refine qx ?_ GE102.out) | exact HB.out)⟩
          ·rw [if_neg c49] at H
           have c49b0 : decide (100000000000 < ((kw l0 x7_1).f3)) = false := decide_eq_false c49
           clear c49
           by_cases c54 : ((kw l0 x7_1).f2) > ((kw l0 x7_1).f3)
           ·rw [if_pos c54] at H
            have c54b0 : decide (((kw l0 x7_1).f3) < ((kw l0 x7_1).f2)) = true := decide_eq_true c54
            clear c54
            obtain rfl := Option.some.inj H
            have p101 : 0 ≤ (x7_1 : Int) := of_decide_eq_true (by assumption)
            have q101 : x7_1 < (l0.length : Int) := of_decide_eq_true (by assumption)
            obtain ⟨ad101,e101,hx101_0,hx101_1,hx101_2,hx101_3⟩ := at_T53 HR0.out x7_1 p101 q101
            cases e101
            replace hx101_0 := (HB.out.cell (World.block_lt_of_cell? w _ hx101_0)).trans hx101_0
            replace hx101_1 := (HB.out.cell (World.block_lt_of_cell? w _ hx101_1)).trans hx101_1
            replace hx101_2 := (HB.out.cell (World.block_lt_of_cell? w _ hx101_2)).trans hx101_2
            replace hx101_3 := (HB.out.cell (World.block_lt_of_cell? w _ hx101_3)).trans hx101_3
            replace p101 := eq_true p101
            replace q101 := eq_true q101
            try go_wp2_with (first | ((with_reducible refine gate_dst (N := 4) rfl ?_);refine box_event ?hg (N := 4) ?hd (cs := #[.string (⟨#[]⟩ : ByteArray),.int .i64 0,.int .i64 0,.int .i64 0]) (t := 53) ?hr ?_;(case hd => rfl);(case hg => rfl);(case hr => first | (go_simp;done) | (go_simp;rfl));intro gb102 hg w55 hbox hb;have n0_ := qq.mk (zv (by repeat (first | (with_reducible first | exact HB.out | apply qj | apply qz | apply qk) | exact HB.out)) hb);have n1_ := qq.mk (hbox);have n2_ := qq.mk ((by rw [hg];exact (zw (by repeat (first | (with_reducible first | exact HB.out | apply qj | apply qz | apply qk) | exact HB.out))) : w.heap.size ≤ gb102));have n3_ := qq.mk ((by rw [hg];exact (zw (by repeat (first | (with_reducible first | exact HB.out | apply qj | apply qz | apply qk) | exact HB.out))) : w.heap.size ≤ gb102));clear HB;have HB := n0_;have BK102 := n1_;have GW102 := n2_;have GE102 := n3_;clear n0_ n1_ n2_ n3_;clear hb hbox hg;have hcz56_0 : w55.cell? ⟨gb102,0,none⟩ = some (.string (⟨#[]⟩ : ByteArray)) := (qw BK102.out 0).trans rfl;have hcz56_1 : w55.cell? ⟨gb102,1,none⟩ = some (.int .i64 0) := (qw BK102.out 1).trans rfl;have hcz56_2 : w55.cell? ⟨gb102,2,none⟩ = some (.int .i64 0) := (qw BK102.out 2).trans rfl;have hcz56_3 : w55.cell? ⟨gb102,3,none⟩ = some (.int .i64 0) := (qw BK102.out 3).trans rfl;have hfz56_0 := qv BK102.out 0;have hfz56_1 := qv BK102.out 1;have hfz56_2 := qv BK102.out 2;have hfz56_3 := qv BK102.out 3))
            have n0_ : qq (((((w55.setCell ⟨gb102,0,none⟩ (.string ((kw l0 x7_1).f0))).setCell ⟨gb102,1,none⟩ (.int .i64 ((kw l0 x7_1).f1))).setCell ⟨gb102,2,none⟩ (.int .i64 ((kw l0 x7_1).f2))).setCell ⟨gb102,3,none⟩ (.int .i64 ((kw l0 x7_1).f3))).heap[gb102]? = some (.cells #[.string ((kw l0 x7_1).f0),.int .i64 ((kw l0 x7_1).f1),.int .i64 ((kw l0 x7_1).f2),.int .i64 ((kw l0 x7_1).f3)] 53 (0,0))) := ⟨by (with_reducible repeat (first | refine zz ?_ _ | refine zj ?_ | refine zq ?_ _));refine blk_put (cs := #[.string ((kw l0 x7_1).f0),.int .i64 ((kw l0 x7_1).f1),.int .i64 ((kw l0 x7_1).f2),.int .i64 0]) ?_ 3 _ rfl;(with_reducible repeat (first | refine zz ?_ _ | refine zj ?_ | refine zq ?_ _));refine blk_put (cs := #[.string ((kw l0 x7_1).f0),.int .i64 ((kw l0 x7_1).f1),.int .i64 0,.int .i64 0]) ?_ 2 _ rfl;(with_reducible repeat (first | refine zz ?_ _ | refine zj ?_ | refine zq ?_ _));refine blk_put (cs := #[.string ((kw l0 x7_1).f0),.int .i64 0,.int .i64 0,.int .i64 0]) ?_ 1 _ rfl;(with_reducible repeat (first | refine zz ?_ _ | refine zj ?_ | refine zq ?_ _));refine blk_put (cs := #[.string (⟨#[]⟩ : ByteArray),.int .i64 0,.int .i64 0,.int .i64 0]) ?_ 0 _ rfl;(with_reducible repeat (first | refine zz ?_ _ | refine zj ?_ | refine zq ?_ _));exact BK102.out⟩
            have n1_ : qq (Below w.heap.size w ((((w55.setCell ⟨gb102,0,none⟩ (.string ((kw l0 x7_1).f0))).setCell ⟨gb102,1,none⟩ (.int .i64 ((kw l0 x7_1).f1))).setCell ⟨gb102,2,none⟩ (.int .i64 ((kw l0 x7_1).f2))).setCell ⟨gb102,3,none⟩ (.int .i64 ((kw l0 x7_1).f3)))) := ⟨by repeat (first | (with_reducible first | exact HB.out | apply qj | apply qz | apply qk | refine qx ?_ GE102.out) | exact HB.out)⟩
            (try clear BK102)
            (try clear HB)
            generalize ((((w55.setCell ⟨gb102,0,none⟩ (.string ((kw l0 x7_1).f0))).setCell ⟨gb102,1,none⟩ (.int .i64 ((kw l0 x7_1).f1))).setCell ⟨gb102,2,none⟩ (.int .i64 ((kw l0 x7_1).f2))).setCell ⟨gb102,3,none⟩ (.int .i64 ((kw l0 x7_1).f3))) = w57 at n0_ n1_ ⊢
            have BK102 := n0_
            have HB := n1_
            clear n0_ n1_
            have hS_ := (show (fun w' => w'.cell? ⟨gb102,0,none⟩ = some (.string ((kw l0 x7_1).f0)) ∧ w'.cell? ⟨gb102,1,none⟩ = some (.int .i64 ((kw l0 x7_1).f1)) ∧ w'.cell? ⟨gb102,2,none⟩ = some (.int .i64 ((kw l0 x7_1).f2)) ∧ w'.cell? ⟨gb102,3,none⟩ = some (.int .i64 ((kw l0 x7_1).f3))) (w57) from ⟨(qw BK102.out 0).trans rfl,(qw BK102.out 1).trans rfl,(qw BK102.out 2).trans rfl,(qw BK102.out 3).trans rfl⟩)
            obtain ⟨hS0_,hS1_,hS2_,hS3_⟩ := hS_
            go_quiet ((first | (go_at_call 37;exact Calls.quiet_of ((qqx.calls k1 ((kw l0 x7_1).f0) true _ A5.out).mono fun _ _ h => ⟨h.1,h.2.out⟩)) | (go_at_call 39;exact Calls.quiet_of ((qqw.calls k1 ((kw l0 x7_1).f1) true _ A42.out).mono fun _ _ h => ⟨h.1,h.2.out⟩))))
            clear hS0_ hS1_ hS2_ hS3_
            have n0_ := qq.mk (zz BK102.out nq)
            have n1_ := qq.mk (qz HB.out nq)
            clear BK102
            clear HB
            have BK102 := n0_
            have HB := n1_
            clear n0_ n1_
            generalize World.drewN w57 nq = w58 at BK102 HB ⊢
            try go_wp2
            go_ret
            exact ⟨by first | rfl | (simp [*,jk,jj] <;> rfl),by repeat (first | (with_reducible first | exact HB.out | apply qj | apply qz | apply qk | refine qx ?_ GE102.out) | exact HB.out)⟩
           ·rw [if_neg c54] at H
            have c54b0 : decide (((kw l0 x7_1).f3) < ((kw l0 x7_1).f2)) = false := decide_eq_false c54
            clear c54
            have H' := qq.mk H
            clear H
            have p101 : 0 ≤ (x7_1 : Int) := of_decide_eq_true (by assumption)
            have q101 : x7_1 < (l0.length : Int) := of_decide_eq_true (by assumption)
            obtain ⟨ad101,e101,hx101_0,hx101_1,hx101_2,hx101_3⟩ := at_T53 HR0.out x7_1 p101 q101
            cases e101
            replace hx101_0 := (HB.out.cell (World.block_lt_of_cell? w _ hx101_0)).trans hx101_0
            replace hx101_1 := (HB.out.cell (World.block_lt_of_cell? w _ hx101_1)).trans hx101_1
            replace hx101_2 := (HB.out.cell (World.block_lt_of_cell? w _ hx101_2)).trans hx101_2
            replace hx101_3 := (HB.out.cell (World.block_lt_of_cell? w _ hx101_3)).trans hx101_3
            replace p101 := eq_true p101
            replace q101 := eq_true q101
            try go_wp2_with (first | ((with_reducible refine gate_dst (N := 4) rfl ?_);refine box_event ?hg (N := 4) ?hd (cs := #[.string (⟨#[]⟩ : ByteArray),.int .i64 0,.int .i64 0,.int .i64 0]) (t := 53) ?hr ?_;(case hd => rfl);(case hg => rfl);(case hr => first | (go_simp;done) | (go_simp;rfl));intro gb102 hg w59 hbox hb;have n0_ := qq.mk (zv (by repeat (first | (with_reducible first | exact HB.out | apply qj | apply qz | apply qk) | exact HB.out)) hb);have n1_ := qq.mk (hbox);have n2_ := qq.mk ((by rw [hg];exact (zw (by repeat (first | (with_reducible first | exact HB.out | apply qj | apply qz | apply qk) | exact HB.out))) : w.heap.size ≤ gb102));have n3_ := qq.mk ((by rw [hg];exact (zw (by repeat (first | (with_reducible first | exact HB.out | apply qj | apply qz | apply qk) | exact HB.out))) : w.heap.size ≤ gb102));clear HB;have HB := n0_;have BK102 := n1_;have GW102 := n2_;have GE102 := n3_;clear n0_ n1_ n2_ n3_;clear hb hbox hg;have hcz60_0 : w59.cell? ⟨gb102,0,none⟩ = some (.string (⟨#[]⟩ : ByteArray)) := (qw BK102.out 0).trans rfl;have hcz60_1 : w59.cell? ⟨gb102,1,none⟩ = some (.int .i64 0) := (qw BK102.out 1).trans rfl;have hcz60_2 : w59.cell? ⟨gb102,2,none⟩ = some (.int .i64 0) := (qw BK102.out 2).trans rfl;have hcz60_3 : w59.cell? ⟨gb102,3,none⟩ = some (.int .i64 0) := (qw BK102.out 3).trans rfl;have hfz60_0 := qv BK102.out 0;have hfz60_1 := qv BK102.out 1;have hfz60_2 := qv BK102.out 2;have hfz60_3 := qv BK102.out 3))
            have n0_ : qq (((((w59.setCell ⟨gb102,0,none⟩ (.string ((kw l0 x7_1).f0))).setCell ⟨gb102,1,none⟩ (.int .i64 ((kw l0 x7_1).f1))).setCell ⟨gb102,2,none⟩ (.int .i64 ((kw l0 x7_1).f2))).setCell ⟨gb102,3,none⟩ (.int .i64 ((kw l0 x7_1).f3))).heap[gb102]? = some (.cells #[.string ((kw l0 x7_1).f0),.int .i64 ((kw l0 x7_1).f1),.int .i64 ((kw l0 x7_1).f2),.int .i64 ((kw l0 x7_1).f3)] 53 (0,0))) := ⟨by (with_reducible repeat (first | refine zz ?_ _ | refine zj ?_ | refine zq ?_ _));refine blk_put (cs := #[.string ((kw l0 x7_1).f0),.int .i64 ((kw l0 x7_1).f1),.int .i64 ((kw l0 x7_1).f2),.int .i64 0]) ?_ 3 _ rfl;(with_reducible repeat (first | refine zz ?_ _ | refine zj ?_ | refine zq ?_ _));refine blk_put (cs := #[.string ((kw l0 x7_1).f0),.int .i64 ((kw l0 x7_1).f1),.int .i64 0,.int .i64 0]) ?_ 2 _ rfl;(with_reducible repeat (first | refine zz ?_ _ | refine zj ?_ | refine zq ?_ _));refine blk_put (cs := #[.string ((kw l0 x7_1).f0),.int .i64 0,.int .i64 0,.int .i64 0]) ?_ 1 _ rfl;(with_reducible repeat (first | refine zz ?_ _ | refine zj ?_ | refine zq ?_ _));refine blk_put (cs := #[.string (⟨#[]⟩ : ByteArray),.int .i64 0,.int .i64 0,.int .i64 0]) ?_ 0 _ rfl;(with_reducible repeat (first | refine zz ?_ _ | refine zj ?_ | refine zq ?_ _));exact BK102.out⟩
            have n1_ : qq (Below w.heap.size w ((((w59.setCell ⟨gb102,0,none⟩ (.string ((kw l0 x7_1).f0))).setCell ⟨gb102,1,none⟩ (.int .i64 ((kw l0 x7_1).f1))).setCell ⟨gb102,2,none⟩ (.int .i64 ((kw l0 x7_1).f2))).setCell ⟨gb102,3,none⟩ (.int .i64 ((kw l0 x7_1).f3)))) := ⟨by repeat (first | (with_reducible first | exact HB.out | apply qj | apply qz | apply qk | refine qx ?_ GE102.out) | exact HB.out)⟩
            (try clear BK102)
            (try clear HB)
            generalize ((((w59.setCell ⟨gb102,0,none⟩ (.string ((kw l0 x7_1).f0))).setCell ⟨gb102,1,none⟩ (.int .i64 ((kw l0 x7_1).f1))).setCell ⟨gb102,2,none⟩ (.int .i64 ((kw l0 x7_1).f2))).setCell ⟨gb102,3,none⟩ (.int .i64 ((kw l0 x7_1).f3))) = w61 at n0_ n1_ ⊢
            have BK102 := n0_
            have HB := n1_
            clear n0_ n1_
            have hS_ := (show (fun w' => w'.cell? ⟨gb102,0,none⟩ = some (.string ((kw l0 x7_1).f0)) ∧ w'.cell? ⟨gb102,1,none⟩ = some (.int .i64 ((kw l0 x7_1).f1)) ∧ w'.cell? ⟨gb102,2,none⟩ = some (.int .i64 ((kw l0 x7_1).f2)) ∧ w'.cell? ⟨gb102,3,none⟩ = some (.int .i64 ((kw l0 x7_1).f3))) (w61) from ⟨(qw BK102.out 0).trans rfl,(qw BK102.out 1).trans rfl,(qw BK102.out 2).trans rfl,(qw BK102.out 3).trans rfl⟩)
            obtain ⟨hS0_,hS1_,hS2_,hS3_⟩ := hS_
            go_quiet ((first | (go_at_call 37;exact Calls.quiet_of ((qqx.calls k1 ((kw l0 x7_1).f0) true _ A5.out).mono fun _ _ h => ⟨h.1,h.2.out⟩)) | (go_at_call 39;exact Calls.quiet_of ((qqw.calls k1 ((kw l0 x7_1).f1) true _ A42.out).mono fun _ _ h => ⟨h.1,h.2.out⟩))))
            clear hS0_ hS1_ hS2_ hS3_
            have n0_ := qq.mk (zz BK102.out nq)
            have n1_ := qq.mk (qz HB.out nq)
            clear BK102
            clear HB
            have BK102 := n0_
            have HB := n1_
            clear n0_ n1_
            generalize World.drewN w61 nq = w62 at BK102 HB ⊢
            try go_wp2
            go_roundg k1
            case measure => have := HK1.out;omega
            case rel => exact ⟨(wrap64 (x7_1 + 1)),(by first | rfl | (simp;done) | (simp [*];done)),H',⟨by have := HK1.out;omega⟩,⟨by repeat (first | (with_reducible first | exact HB.out | apply qj | apply qz | apply qk | refine qx ?_ GE102.out) | exact HB.out)⟩⟩
        ·replace c43 := Bool.eq_false_iff.mpr c43
         subst c43
         have H1 : (some false) = some r := by rw [if_neg (show ¬ (false = true) by decide)] at H;exact H
         clear H
         have H := H1
         clear H1
         obtain rfl := Option.some.inj H
         have p101 : 0 ≤ (x7_1 : Int) := of_decide_eq_true (by assumption)
         have q101 : x7_1 < (l0.length : Int) := of_decide_eq_true (by assumption)
         obtain ⟨ad101,e101,hx101_0,hx101_1,hx101_2,hx101_3⟩ := at_T53 HR0.out x7_1 p101 q101
         cases e101
         replace hx101_0 := (HB.out.cell (World.block_lt_of_cell? w _ hx101_0)).trans hx101_0
         replace hx101_1 := (HB.out.cell (World.block_lt_of_cell? w _ hx101_1)).trans hx101_1
         replace hx101_2 := (HB.out.cell (World.block_lt_of_cell? w _ hx101_2)).trans hx101_2
         replace hx101_3 := (HB.out.cell (World.block_lt_of_cell? w _ hx101_3)).trans hx101_3
         replace p101 := eq_true p101
         replace q101 := eq_true q101
         try go_wp2_with (first | ((with_reducible refine gate_dst (N := 4) rfl ?_);refine box_event ?hg (N := 4) ?hd (cs := #[.string (⟨#[]⟩ : ByteArray),.int .i64 0,.int .i64 0,.int .i64 0]) (t := 53) ?hr ?_;(case hd => rfl);(case hg => rfl);(case hr => first | (go_simp;done) | (go_simp;rfl));intro gb102 hg w63 hbox hb;have n0_ := qq.mk (zv (by repeat (first | (with_reducible first | exact HB.out | apply qj | apply qz | apply qk) | exact HB.out)) hb);have n1_ := qq.mk (hbox);have n2_ := qq.mk ((by rw [hg];exact (zw (by repeat (first | (with_reducible first | exact HB.out | apply qj | apply qz | apply qk) | exact HB.out))) : w.heap.size ≤ gb102));have n3_ := qq.mk ((by rw [hg];exact (zw (by repeat (first | (with_reducible first | exact HB.out | apply qj | apply qz | apply qk) | exact HB.out))) : w.heap.size ≤ gb102));clear HB;have HB := n0_;have BK102 := n1_;have GW102 := n2_;have GE102 := n3_;clear n0_ n1_ n2_ n3_;clear hb hbox hg;have hcz64_0 : w63.cell? ⟨gb102,0,none⟩ = some (.string (⟨#[]⟩ : ByteArray)) := (qw BK102.out 0).trans rfl;have hcz64_1 : w63.cell? ⟨gb102,1,none⟩ = some (.int .i64 0) := (qw BK102.out 1).trans rfl;have hcz64_2 : w63.cell? ⟨gb102,2,none⟩ = some (.int .i64 0) := (qw BK102.out 2).trans rfl;have hcz64_3 : w63.cell? ⟨gb102,3,none⟩ = some (.int .i64 0) := (qw BK102.out 3).trans rfl;have hfz64_0 := qv BK102.out 0;have hfz64_1 := qv BK102.out 1;have hfz64_2 := qv BK102.out 2;have hfz64_3 := qv BK102.out 3))
         have n0_ : qq (((((w63.setCell ⟨gb102,0,none⟩ (.string ((kw l0 x7_1).f0))).setCell ⟨gb102,1,none⟩ (.int .i64 ((kw l0 x7_1).f1))).setCell ⟨gb102,2,none⟩ (.int .i64 ((kw l0 x7_1).f2))).setCell ⟨gb102,3,none⟩ (.int .i64 ((kw l0 x7_1).f3))).heap[gb102]? = some (.cells #[.string ((kw l0 x7_1).f0),.int .i64 ((kw l0 x7_1).f1),.int .i64 ((kw l0 x7_1).f2),.int .i64 ((kw l0 x7_1).f3)] 53 (0,0))) := ⟨by (with_reducible repeat (first | refine zz ?_ _ | refine zj ?_ | refine zq ?_ _));refine blk_put (cs := #[.string ((kw l0 x7_1).f0),.int .i64 ((kw l0 x7_1).f1),.int .i64 ((kw l0 x7_1).f2),.int .i64 0]) ?_ 3 _ rfl;(with_reducible repeat (first | refine zz ?_ _ | refine zj ?_ | refine zq ?_ _));refine blk_put (cs := #[.string ((kw l0 x7_1).f0),.int .i64 ((kw l0 x7_1).f1),.int .i64 0,.int .i64 0]) ?_ 2 _ rfl;(with_reducible repeat (first | refine zz ?_ _ | refine zj ?_ | refine zq ?_ _));refine blk_put (cs := #[.string ((kw l0 x7_1).f0),.int .i64 0,.int .i64 0,.int .i64 0]) ?_ 1 _ rfl;(with_reducible repeat (first | refine zz ?_ _ | refine zj ?_ | refine zq ?_ _));refine blk_put (cs := #[.string (⟨#[]⟩ : ByteArray),.int .i64 0,.int .i64 0,.int .i64 0]) ?_ 0 _ rfl;(with_reducible repeat (first | refine zz ?_ _ | refine zj ?_ | refine zq ?_ _));exact BK102.out⟩
         have n1_ : qq (Below w.heap.size w ((((w63.setCell ⟨gb102,0,none⟩ (.string ((kw l0 x7_1).f0))).setCell ⟨gb102,1,none⟩ (.int .i64 ((kw l0 x7_1).f1))).setCell ⟨gb102,2,none⟩ (.int .i64 ((kw l0 x7_1).f2))).setCell ⟨gb102,3,none⟩ (.int .i64 ((kw l0 x7_1).f3)))) := ⟨by repeat (first | (with_reducible first | exact HB.out | apply qj | apply qz | apply qk | refine qx ?_ GE102.out) | exact HB.out)⟩
         (try clear BK102)
         (try clear HB)
         generalize ((((w63.setCell ⟨gb102,0,none⟩ (.string ((kw l0 x7_1).f0))).setCell ⟨gb102,1,none⟩ (.int .i64 ((kw l0 x7_1).f1))).setCell ⟨gb102,2,none⟩ (.int .i64 ((kw l0 x7_1).f2))).setCell ⟨gb102,3,none⟩ (.int .i64 ((kw l0 x7_1).f3))) = w65 at n0_ n1_ ⊢
         have BK102 := n0_
         have HB := n1_
         clear n0_ n1_
         have hS_ := (show (fun w' => w'.cell? ⟨gb102,0,none⟩ = some (.string ((kw l0 x7_1).f0)) ∧ w'.cell? ⟨gb102,1,none⟩ = some (.int .i64 ((kw l0 x7_1).f1)) ∧ w'.cell? ⟨gb102,2,none⟩ = some (.int .i64 ((kw l0 x7_1).f2)) ∧ w'.cell? ⟨gb102,3,none⟩ = some (.int .i64 ((kw l0 x7_1).f3))) (w65) from ⟨(qw BK102.out 0).trans rfl,(qw BK102.out 1).trans rfl,(qw BK102.out 2).trans rfl,(qw BK102.out 3).trans rfl⟩)
         obtain ⟨hS0_,hS1_,hS2_,hS3_⟩ := hS_
         go_quiet ((first | (go_at_call 37;exact Calls.quiet_of ((qqx.calls k1 ((kw l0 x7_1).f0) true _ A5.out).mono fun _ _ h => ⟨h.1,h.2.out⟩)) | (go_at_call 39;exact Calls.quiet_of ((qqw.calls k1 ((kw l0 x7_1).f1) false _ A42.out).mono fun _ _ h => ⟨h.1,h.2.out⟩))))
         clear hS0_ hS1_ hS2_ hS3_
         have n0_ := qq.mk (zz BK102.out nq)
         have n1_ := qq.mk (qz HB.out nq)
         clear BK102
         clear HB
         have BK102 := n0_
         have HB := n1_
         clear n0_ n1_
         generalize World.drewN w65 nq = w66 at BK102 HB ⊢
         try go_wp2
         go_ret
         exact ⟨by first | rfl | (simp [*,jk,jj] <;> rfl),by repeat (first | (with_reducible first | exact HB.out | apply qj | apply qz | apply qk | refine qx ?_ GE102.out) | exact HB.out)⟩
      ·replace c6 := Bool.eq_false_iff.mpr c6
       subst c6
       have H1 : (some false) = some r := by rw [if_neg (show ¬ (false = true) by decide)] at H;exact H
       clear H
       have H := H1
       clear H1
       obtain rfl := Option.some.inj H
       have p101 : 0 ≤ (x7_1 : Int) := of_decide_eq_true (by assumption)
       have q101 : x7_1 < (l0.length : Int) := of_decide_eq_true (by assumption)
       obtain ⟨ad101,e101,hx101_0,hx101_1,hx101_2,hx101_3⟩ := at_T53 HR0.out x7_1 p101 q101
       cases e101
       replace hx101_0 := (HB.out.cell (World.block_lt_of_cell? w _ hx101_0)).trans hx101_0
       replace hx101_1 := (HB.out.cell (World.block_lt_of_cell? w _ hx101_1)).trans hx101_1
       replace hx101_2 := (HB.out.cell (World.block_lt_of_cell? w _ hx101_2)).trans hx101_2
       replace hx101_3 := (HB.out.cell (World.block_lt_of_cell? w _ hx101_3)).trans hx101_3
       replace p101 := eq_true p101
       replace q101 := eq_true q101
       try go_wp2_with (first | ((with_reducible refine gate_dst (N := 4) rfl ?_);refine box_event ?hg (N := 4) ?hd (cs := #[.string (⟨#[]⟩ : ByteArray),.int .i64 0,.int .i64 0,.int .i64 0]) (t := 53) ?hr ?_;(case hd => rfl);(case hg => rfl);(case hr => first | (go_simp;done) | (go_simp;rfl));intro gb102 hg w67 hbox hb;have n0_ := qq.mk (zv (by repeat (first | (with_reducible first | exact HB.out | apply qj | apply qz | apply qk) | exact HB.out)) hb);have n1_ := qq.mk (hbox);have n2_ := qq.mk ((by rw [hg];exact (zw (by repeat (first | (with_reducible first | exact HB.out | apply qj | apply qz | apply qk) | exact HB.out))) : w.heap.size ≤ gb102));have n3_ := qq.mk ((by rw [hg];exact (zw (by repeat (first | (with_reducible first | exact HB.out | apply qj | apply qz | apply qk) | exact HB.out))) : w.heap.size ≤ gb102));clear HB;have HB := n0_;have BK102 := n1_;have GW102 := n2_;have GE102 := n3_;clear n0_ n1_ n2_ n3_;clear hb hbox hg;have hcz68_0 : w67.cell? ⟨gb102,0,none⟩ = some (.string (⟨#[]⟩ : ByteArray)) := (qw BK102.out 0).trans rfl;have hcz68_1 : w67.cell? ⟨gb102,1,none⟩ = some (.int .i64 0) := (qw BK102.out 1).trans rfl;have hcz68_2 : w67.cell? ⟨gb102,2,none⟩ = some (.int .i64 0) := (qw BK102.out 2).trans rfl;have hcz68_3 : w67.cell? ⟨gb102,3,none⟩ = some (.int .i64 0) := (qw BK102.out 3).trans rfl;have hfz68_0 := qv BK102.out 0;have hfz68_1 := qv BK102.out 1;have hfz68_2 := qv BK102.out 2;have hfz68_3 := qv BK102.out 3))
       have n0_ : qq (((((w67.setCell ⟨gb102,0,none⟩ (.string ((kw l0 x7_1).f0))).setCell ⟨gb102,1,none⟩ (.int .i64 ((kw l0 x7_1).f1))).setCell ⟨gb102,2,none⟩ (.int .i64 ((kw l0 x7_1).f2))).setCell ⟨gb102,3,none⟩ (.int .i64 ((kw l0 x7_1).f3))).heap[gb102]? = some (.cells #[.string ((kw l0 x7_1).f0),.int .i64 ((kw l0 x7_1).f1),.int .i64 ((kw l0 x7_1).f2),.int .i64 ((kw l0 x7_1).f3)] 53 (0,0))) := ⟨by (with_reducible repeat (first | refine zz ?_ _ | refine zj ?_ | refine zq ?_ _));refine blk_put (cs := #[.string ((kw l0 x7_1).f0),.int .i64 ((kw l0 x7_1).f1),.int .i64 ((kw l0 x7_1).f2),.int .i64 0]) ?_ 3 _ rfl;(with_reducible repeat (first | refine zz ?_ _ | refine zj ?_ | refine zq ?_ _));refine blk_put (cs := #[.string ((kw l0 x7_1).f0),.int .i64 ((kw l0 x7_1).f1),.int .i64 0,.int .i64 0]) ?_ 2 _ rfl;(with_reducible repeat (first | refine zz ?_ _ | refine zj ?_ | refine zq ?_ _));refine blk_put (cs := #[.string ((kw l0 x7_1).f0),.int .i64 0,.int .i64 0,.int .i64 0]) ?_ 1 _ rfl;(with_reducible repeat (first | refine zz ?_ _ | refine zj ?_ | refine zq ?_ _));refine blk_put (cs := #[.string (⟨#[]⟩ : ByteArray),.int .i64 0,.int .i64 0,.int .i64 0]) ?_ 0 _ rfl;(with_reducible repeat (first | refine zz ?_ _ | refine zj ?_ | refine zq ?_ _));exact BK102.out⟩
       have n1_ : qq (Below w.heap.size w ((((w67.setCell ⟨gb102,0,none⟩ (.string ((kw l0 x7_1).f0))).setCell ⟨gb102,1,none⟩ (.int .i64 ((kw l0 x7_1).f1))).setCell ⟨gb102,2,none⟩ (.int .i64 ((kw l0 x7_1).f2))).setCell ⟨gb102,3,none⟩ (.int .i64 ((kw l0 x7_1).f3)))) := ⟨by repeat (first | (with_reducible first | exact HB.out | apply qj | apply qz | apply qk | refine qx ?_ GE102.out) | exact HB.out)⟩
       (try clear BK102)
       (try clear HB)
       generalize ((((w67.setCell ⟨gb102,0,none⟩ (.string ((kw l0 x7_1).f0))).setCell ⟨gb102,1,none⟩ (.int .i64 ((kw l0 x7_1).f1))).setCell ⟨gb102,2,none⟩ (.int .i64 ((kw l0 x7_1).f2))).setCell ⟨gb102,3,none⟩ (.int .i64 ((kw l0 x7_1).f3))) = w69 at n0_ n1_ ⊢
       have BK102 := n0_
       have HB := n1_
       clear n0_ n1_
       have hS_ := (show (fun w' => w'.cell? ⟨gb102,0,none⟩ = some (.string ((kw l0 x7_1).f0)) ∧ w'.cell? ⟨gb102,1,none⟩ = some (.int .i64 ((kw l0 x7_1).f1)) ∧ w'.cell? ⟨gb102,2,none⟩ = some (.int .i64 ((kw l0 x7_1).f2)) ∧ w'.cell? ⟨gb102,3,none⟩ = some (.int .i64 ((kw l0 x7_1).f3))) (w69) from ⟨(qw BK102.out 0).trans rfl,(qw BK102.out 1).trans rfl,(qw BK102.out 2).trans rfl,(qw BK102.out 3).trans rfl⟩)
       obtain ⟨hS0_,hS1_,hS2_,hS3_⟩ := hS_
       go_quiet ((first | (go_at_call 37;exact Calls.quiet_of ((qqx.calls k1 ((kw l0 x7_1).f0) false _ A5.out).mono fun _ _ h => ⟨h.1,h.2.out⟩))))
       clear hS0_ hS1_ hS2_ hS3_
       have n0_ := qq.mk (zz BK102.out nq)
       have n1_ := qq.mk (qz HB.out nq)
       clear BK102
       clear HB
       have BK102 := n0_
       have HB := n1_
       clear n0_ n1_
       generalize World.drewN w69 nq = w70 at BK102 HB ⊢
       try go_wp2
       go_ret
       exact ⟨by first | rfl | (simp [*,jk,jj] <;> rfl),by repeat (first | (with_reducible first | exact HB.out | apply qj | apply qz | apply qk | refine qx ?_ GE102.out) | exact HB.out)⟩
     ·rw [if_neg c4] at H
      exact absurd H (by simp)
    ·rw [if_neg c3] at H
     exact absurd H (by simp)
   ·rw [if_neg c2] at H
    have c2b0 : decide (x7_1 < (l0.length : Int)) = false := decide_eq_false c2
    clear c2
    obtain rfl := Option.some.inj H
    go_wp2
    go_ret
    exact ⟨by first | rfl | (simp [*,jk,jj] <;> rfl),by repeat (first | (with_reducible first | exact HB.out | apply qj | apply qz | apply qk) | exact HB.out)⟩
end Go.Proofs.Ytakocdkcfjkmdaa.Pr
namespace Go.Proofs.Ytakocdkcfjkmdaa.Pr
open Go.RowKit Go.Proofs.YtakocdkcfjkmdaaW.PrintWords Go.Proofs.YtakocdkcfjkmdaaW.PrintLast Go.Proofs.YtakocdkcfjkmdaaW.PrintMore
attribute [local go_sem] max2_int min2_int max_two min_two max_three min_three max_four min_four
set_option linter.unusedVariables false
set_option linter.unusedSimpArgs false
def xx.f (a0 : Int) (a1 : Int) : Option (Int) := if a0 < a1 then (some a0) else (some a1)
set_option maxHeartbeats 8000000 in
set_option maxRecDepth 100000 in
theorem xx.calls (a0 : Int) (a1 : Int) (r : Int) (w : World) (h : xx.f a0 a1 = some r) :
  Calls Try.prog 54 #[.int .i64 a0,.int .i64 a1] w fun e w' => e = .returned (.int .i64 r) ∧ Drawn0 w w' := by
 have H : (if a0 < a1 then (some a0) else (some a1)) = some r := h
 clear h
 by_cases c3 : a0 < a1
 ·rw [if_pos c3] at H
  have c3b0 : decide (a0 < a1) = true := decide_eq_true c3
  clear c3
  obtain rfl := Option.some.inj H
  go_enter Try.func54,Try.ntmps54
  go_wp2
  go_ret
  exact ⟨by first | rfl | (simp;done) | (simp [*];done),by repeat (first | exact Drawn0.refl _ | apply Drawn0.step)⟩
 ·rw [if_neg c3] at H
  have c3b0 : decide (a0 < a1) = false := decide_eq_false c3
  clear c3
  obtain rfl := Option.some.inj H
  go_enter Try.func54,Try.ntmps54
  go_wp2
  go_ret
  exact ⟨by first | rfl | (simp;done) | (simp [*];done),by repeat (first | exact Drawn0.refl _ | apply Drawn0.step)⟩
end Go.Proofs.Ytakocdkcfjkmdaa.Pr
namespace Go.Proofs.Ytakocdkcfjkmdaa.Pr
open Go.RowKit Go.Proofs.YtakocdkcfjkmdaaW.PrintWords Go.Proofs.YtakocdkcfjkmdaaW.PrintLast Go.Proofs.YtakocdkcfjkmdaaW.PrintMore
attribute [local go_sem] max2_int min2_int max_two min_two max_three min_three max_four min_four
set_option linter.unusedVariables false
set_option linter.unusedSimpArgs false
mutual
def xw.j0 : Nat → List (S53) → Int → Int → Bool → ByteArray → Int → Int → Int → Option ((List (S53)))
 | 0,_,_,_,_,_,_,_,_ => none
 | k + 1,x0,x2,x3,x31,x102000,x102001,x102002,x102003 => if x31 = true then (some ([] : List (S53))) else (xw.l0 k x2 x3 ([] : List (S53)) false x0 (x0.length : Int) 0 x102000 x102001 x102002 x102003)
def xw.l0 : Nat → Int → Int → List (S53) → Bool → List (S53) → Int → Int → ByteArray → Int → Int → Int → Option ((List (S53)))
 | 0,_,_,_,_,_,_,_,_,_,_,_ => none
 | k + 1,x2,x3,x9,x10,x32,x33,x34,x102000,x102001,x102002,x102003 => if x34 < x33 then (if 0 ≤ x34 then (if x34 < (x32.length : Int) then (if x10 = true then (xw.j2 k x2 x3 x9 x10 x32 x33 x34 false x102000 x102001 x102002 x102003 ((kw x32 x34).f0) ((kw x32 x34).f1) ((kw x32 x34).f2) ((kw x32 x34).f3)) else ((qqz.f k x102000 ((kw x32 x34).f0)).bind fun t105 => (xw.j2 k x2 x3 x9 x10 x32 x33 x34 (decide (t105 ≤ 0)) x102000 x102001 x102002 x102003 ((kw x32 x34).f0) ((kw x32 x34).f1) ((kw x32 x34).f2) ((kw x32 x34).f3)))) else (none)) else (none)) else (if x10 = true then ((xv.f k x9).bind fun t117 => (if t117 = true then (some x9) else (some ([] : List (S53))))) else (if x9.length < 3518437208883 then ((some (x9 ++ [(⟨x102000,x102001,x102002,x102003⟩ : S53)] : List (S53))).bind fun y118 => ((xv.f k y118).bind fun t121 => (if t121 = true then (some y118) else (some ([] : List (S53)))))) else (none)))
def xw.j2 : Nat → Int → Int → List (S53) → Bool → List (S53) → Int → Int → Bool → ByteArray → Int → Int → Int → ByteArray → Int → Int → Int → Option ((List (S53)))
 | 0,_,_,_,_,_,_,_,_,_,_,_,_,_,_,_,_ => none
 | k + 1,x2,x3,x9,x10,x32,x33,x34,x47,x102000,x102001,x102002,x102003,x105000,x105001,x105002,x105003 => if x47 = true then (if x9.length < 3518437208883 then ((some (x9 ++ [(⟨x102000,x102001,x102002,x102003⟩ : S53)] : List (S53))).bind fun y106 => (if x105003 < x2 then (xw.l0 k x2 x3 y106 true x32 x33 (wrap64 (x34 + 1)) x102000 x102001 x102002 x102003) else (if x105002 > (wrap64 (x2 + x3)) then (xw.l0 k x2 x3 y106 true x32 x33 (wrap64 (x34 + 1)) x102000 x102001 x102002 x102003) else ((xx.f x105003 (wrap64 (x2 + x3))).bind fun t109 => (if y106.length < 3518437208883 then (xw.l0 k x2 x3 (y106 ++ [(⟨x105000,x105001,x105002,t109⟩ : S53)]) true x32 x33 (wrap64 (x34 + 1)) x102000 x102001 x102002 x102003) else (none)))))) else (none)) else (if x105003 < x2 then (xw.l0 k x2 x3 x9 x10 x32 x33 (wrap64 (x34 + 1)) x102000 x102001 x102002 x102003) else (if x105002 > (wrap64 (x2 + x3)) then (xw.l0 k x2 x3 x9 x10 x32 x33 (wrap64 (x34 + 1)) x102000 x102001 x102002 x102003) else ((xx.f x105003 (wrap64 (x2 + x3))).bind fun t113 => (if x9.length < 3518437208883 then (xw.l0 k x2 x3 (x9 ++ [(⟨x105000,x105001,x105002,t113⟩ : S53)]) x10 x32 x33 (wrap64 (x34 + 1)) x102000 x102001 x102002 x102003) else (none)))))
end
def xw.f (k : Nat) (l0 : List (S53)) (a1_0 : ByteArray) (a1_1 : Int) (a1_2 : Int) (a1_3 : Int) (a2 : Int) (a3 : Int) : Option ((List (S53))) := (xv.f k l0).bind fun t102 => (if t102 = true then (if a2 < 0 then (xw.j0 k l0 a2 a3 true a1_0 a1_1 a1_2 a1_3) else (if a2 > 100000000000 then (xw.j0 k l0 a2 a3 true a1_0 a1_1 a1_2 a1_3) else (if a3 < 0 then (xw.j0 k l0 a2 a3 true a1_0 a1_1 a1_2 a1_3) else (xw.j0 k l0 a2 a3 (decide (a3 > 100000000000)) a1_0 a1_1 a1_2 a1_3)))) else (xw.j0 k l0 a2 a3 true a1_0 a1_1 a1_2 a1_3))
set_option maxHeartbeats 8000000 in
set_option maxRecDepth 100000 in
theorem xw.calls (k : Nat) (A0 : Option Addr) (c0 : Nat) (l0 : List (S53)) (a1_0 : ByteArray) (a1_1 : Int) (a1_2 : Int) (a1_3 : Int) (a2 : Int) (a3 : Int) (r : List (S53)) (w : World) (hr0 : Kd.C k53 w A0 l0.length l0) (hc0 : l0.length ≤ c0) (h : xw.f k l0 a1_0 a1_1 a1_2 a1_3 a2 a3 = some r) :
  Calls Try.prog 24 #[.slice A0 l0.length c0,.agg #[.string a1_0,.int .i64 a1_1,.int .i64 a1_2,.int .i64 a1_3],.int .i64 a2,.int .i64 a3] w fun e w' => ∃ v0_ : Value,e = .returned (v0_) ∧ Kd.R k53 53 w' w.heap.size (fun _ => True) v0_ r ∧ Below w.heap.size w w' := by
 have hu53 := Try.underlying53
 have HR0 := qq.mk hr0
 have HC0 := qq.mk hc0
 clear hr0 hc0
 have HB := qq.mk (Below.refl w.heap.size w)
 have H : ((xv.f k l0).bind fun t102 => (if t102 = true then (if a2 < 0 then (xw.j0 k l0 a2 a3 true a1_0 a1_1 a1_2 a1_3) else (if a2 > 100000000000 then (xw.j0 k l0 a2 a3 true a1_0 a1_1 a1_2 a1_3) else (if a3 < 0 then (xw.j0 k l0 a2 a3 true a1_0 a1_1 a1_2 a1_3) else (xw.j0 k l0 a2 a3 (decide (a3 > 100000000000)) a1_0 a1_1 a1_2 a1_3)))) else (xw.j0 k l0 a2 a3 true a1_0 a1_1 a1_2 a1_3))) = some r := h
 clear h
 have HC5 := qq.mk H
 clear H
 go_enter Try.func24,Try.ntmps24
 go_upto_region 1 with (first | ((with_reducible refine gate_dst (N := 5) rfl ?_);refine box_event ?hg (N := 5) ?hd (cs := #[.string a1_0,.int .i64 a1_1,.int .i64 a1_2,.int .i64 a1_3]) (t := 53) ?hr ?_;(case hd => rfl);(case hg => rfl);(case hr => first | (go_simp;done) | (go_simp;rfl));intro gb101 hg w6 hbox hb;have n0_ := qq.mk (zv (by repeat (first | (with_reducible first | exact HB.out | apply qj | apply qz | apply qk) | exact HB.out)) hb);have n1_ := qq.mk (hbox);have n2_ := qq.mk ((by rw [hg];exact (zw (by repeat (first | (with_reducible first | exact HB.out | apply qj | apply qz | apply qk) | exact HB.out))) : w.heap.size ≤ gb101));have n3_ := qq.mk ((by rw [hg];exact (zw (by repeat (first | (with_reducible first | exact HB.out | apply qj | apply qz | apply qk) | exact HB.out))) : w.heap.size ≤ gb101));clear HB;have HB := n0_;have BK101 := n1_;have GW101 := n2_;have GE101 := n3_;clear n0_ n1_ n2_ n3_;clear hb hbox hg))
 (try simp only [Act.put,List.setIfInBounds_toArray,List.set_cons_zero,List.set_cons_succ])
 go_cut [31] (fun v31 wc => ∃ (kq : Nat) (x31_4 : Bool),v31 = .bool x31_4 ∧ qq (xw.j0 kq l0 a2 a3 x31_4 a1_0 a1_1 a1_2 a1_3 = some r) ∧ qq (kq ≤ k) ∧ qq (wc.heap[gb101]? = some (.cells #[.string a1_0,.int .i64 a1_1,.int .i64 a1_2,.int .i64 a1_3] 53 (0,0))) ∧ qq (Below w.heap.size w wc))
 case first =>
  have H := HC5.out
  clear HC5
  replace H := Option.bind_eq_some_iff.mp H
  obtain ⟨t102,A70,H⟩ := H
  replace H : (if t102 = true then (if a2 < 0 then (xw.j0 k l0 a2 a3 true a1_0 a1_1 a1_2 a1_3) else (if a2 > 100000000000 then (xw.j0 k l0 a2 a3 true a1_0 a1_1 a1_2 a1_3) else (if a3 < 0 then (xw.j0 k l0 a2 a3 true a1_0 a1_1 a1_2 a1_3) else (xw.j0 k l0 a2 a3 (decide (a3 > 100000000000)) a1_0 a1_1 a1_2 a1_3)))) else (xw.j0 k l0 a2 a3 true a1_0 a1_1 a1_2 a1_3)) = some r := H
  have A7 := qq.mk A70
  clear A70
  by_cases c8 : t102 = true
  ·subst c8
   have H1 : (if a2 < 0 then (xw.j0 k l0 a2 a3 true a1_0 a1_1 a1_2 a1_3) else (if a2 > 100000000000 then (xw.j0 k l0 a2 a3 true a1_0 a1_1 a1_2 a1_3) else (if a3 < 0 then (xw.j0 k l0 a2 a3 true a1_0 a1_1 a1_2 a1_3) else (xw.j0 k l0 a2 a3 (decide (a3 > 100000000000)) a1_0 a1_1 a1_2 a1_3)))) = some r := by rw [if_pos rfl] at H;exact H
   clear H
   have H := H1
   clear H1
   by_cases c9 : a2 < 0
   ·rw [if_pos c9] at H
    have c9b0 : decide (a2 < 0) = true := decide_eq_true c9
    clear c9
    (first | rw [c9b0] | (simp only [i64_w,i32_w];rw [c9b0]) | skip)
    have H' := qq.mk H
    clear H
    go_wp2_with (first | ((with_reducible refine jv (f := 14) rfl ?_);refine goesL_ (some 14) rfl rfl Try.func14 (by kernel_rfl) rfl #[.slice A0 l0.length c0] rfl (by (try simp only [List.map_toArray,List.map_cons,List.map_nil]);first | done | rfl | (simp only [List.length_drop,List.length_take];rfl)) ?_;(with_reducible refine (xv.calls k _ _ l0 true _ ?side1 ?side2 A7.out).mono ?_);(case side1 => repeat (first | exact (Kd.C_below HR0.out HB.out) | (with_reducible refine Kd.C_alloc ?_ _) | (with_reducible refine Kd.C_drewN ?_ _) | (with_reducible refine Kd.C_drew ?_)));(case side2 => exact HC0.out);rintro e w10 ⟨rfl,hb⟩;refine ⟨_,rfl,?_⟩;have n0_ := qq.mk (kj (g := gb101) (o := .cells #[.string a1_0,.int .i64 a1_1,.int .i64 a1_2,.int .i64 a1_3] 53 (0,0)) (by (with_reducible repeat (first | refine zz ?_ _ | refine zj ?_ | refine zq ?_ _));exact BK101.out) hb);have n1_ := qq.mk (zv (by repeat (first | (with_reducible first | exact HB.out | apply qj | apply qz | apply qk | refine qx ?_ GE101.out) | exact HB.out)) hb);clear BK101;clear HB;have BK101 := n0_;have HB := n1_;clear n0_ n1_;(try clear hb);(try clear hb2);(try clear hk);(try clear hi)))
    go_meet
    case rel => exact ⟨_,(true),(by first | rfl | (simp;done) | (simp [*];done)),H',⟨by first | omega | exact Nat.le_refl _⟩,⟨by (with_reducible repeat (first | refine zz ?_ _ | refine zj ?_ | refine zq ?_ _));exact BK101.out⟩,⟨by repeat (first | (with_reducible first | exact HB.out | apply qj | apply qz | apply qk | refine qx ?_ GE101.out) | exact HB.out)⟩⟩
   ·rw [if_neg c9] at H
    have c9b0 : decide (a2 < 0) = false := decide_eq_false c9
    clear c9
    (first | rw [c9b0] | (simp only [i64_w,i32_w];rw [c9b0]) | skip)
    by_cases c11 : a2 > 100000000000
    ·rw [if_pos c11] at H
     have c11b0 : decide (100000000000 < a2) = true := decide_eq_true c11
     clear c11
     have H' := qq.mk H
     clear H
     go_wp2_with (first | ((with_reducible refine jv (f := 14) rfl ?_);refine goesL_ (some 14) rfl rfl Try.func14 (by kernel_rfl) rfl #[.slice A0 l0.length c0] rfl (by (try simp only [List.map_toArray,List.map_cons,List.map_nil]);first | done | rfl | (simp only [List.length_drop,List.length_take];rfl)) ?_;(with_reducible refine (xv.calls k _ _ l0 true _ ?side1 ?side2 A7.out).mono ?_);(case side1 => repeat (first | exact (Kd.C_below HR0.out HB.out) | (with_reducible refine Kd.C_alloc ?_ _) | (with_reducible refine Kd.C_drewN ?_ _) | (with_reducible refine Kd.C_drew ?_)));(case side2 => exact HC0.out);rintro e w12 ⟨rfl,hb⟩;refine ⟨_,rfl,?_⟩;have n0_ := qq.mk (kj (g := gb101) (o := .cells #[.string a1_0,.int .i64 a1_1,.int .i64 a1_2,.int .i64 a1_3] 53 (0,0)) (by (with_reducible repeat (first | refine zz ?_ _ | refine zj ?_ | refine zq ?_ _));exact BK101.out) hb);have n1_ := qq.mk (zv (by repeat (first | (with_reducible first | exact HB.out | apply qj | apply qz | apply qk | refine qx ?_ GE101.out) | exact HB.out)) hb);clear BK101;clear HB;have BK101 := n0_;have HB := n1_;clear n0_ n1_;(try clear hb);(try clear hb2);(try clear hk);(try clear hi)))
     go_meet
     case rel => exact ⟨_,(true),(by first | rfl | (simp;done) | (simp [*];done)),H',⟨by first | omega | exact Nat.le_refl _⟩,⟨by (with_reducible repeat (first | refine zz ?_ _ | refine zj ?_ | refine zq ?_ _));exact BK101.out⟩,⟨by repeat (first | (with_reducible first | exact HB.out | apply qj | apply qz | apply qk | refine qx ?_ GE101.out) | exact HB.out)⟩⟩
    ·rw [if_neg c11] at H
     have c11b0 : decide (100000000000 < a2) = false := decide_eq_false c11
     clear c11
     by_cases c13 : a3 < 0
     ·rw [if_pos c13] at H
      have c13b0 : decide (a3 < 0) = true := decide_eq_true c13
      clear c13
      have H' := qq.mk H
      clear H
      go_wp2_with (first | ((with_reducible refine jv (f := 14) rfl ?_);refine goesL_ (some 14) rfl rfl Try.func14 (by kernel_rfl) rfl #[.slice A0 l0.length c0] rfl (by (try simp only [List.map_toArray,List.map_cons,List.map_nil]);first | done | rfl | (simp only [List.length_drop,List.length_take];rfl)) ?_;(with_reducible refine (xv.calls k _ _ l0 true _ ?side1 ?side2 A7.out).mono ?_);(case side1 => repeat (first | exact (Kd.C_below HR0.out HB.out) | (with_reducible refine Kd.C_alloc ?_ _) | (with_reducible refine Kd.C_drewN ?_ _) | (with_reducible refine Kd.C_drew ?_)));(case side2 => exact HC0.out);rintro e w14 ⟨rfl,hb⟩;refine ⟨_,rfl,?_⟩;have n0_ := qq.mk (kj (g := gb101) (o := .cells #[.string a1_0,.int .i64 a1_1,.int .i64 a1_2,.int .i64 a1_3] 53 (0,0)) (by (with_reducible repeat (first | refine zz ?_ _ | refine zj ?_ | refine zq ?_ _));exact BK101.out) hb);have n1_ := qq.mk (zv (by repeat (first | (with_reducible first | exact HB.out | apply qj | apply qz | apply qk | refine qx ?_ GE101.out) | exact HB.out)) hb);clear BK101;clear HB;have BK101 := n0_;have HB := n1_;clear n0_ n1_;(try clear hb);(try clear hb2);(try clear hk);(try clear hi)))
      go_meet
      case rel => exact ⟨_,(true),(by first | rfl | (simp;done) | (simp [*];done)),H',⟨by first | omega | exact Nat.le_refl _⟩,⟨by (with_reducible repeat (first | refine zz ?_ _ | refine zj ?_ | refine zq ?_ _));exact BK101.out⟩,⟨by repeat (first | (with_reducible first | exact HB.out | apply qj | apply qz | apply qk | refine qx ?_ GE101.out) | exact HB.out)⟩⟩
     ·rw [if_neg c13] at H
      have c13b0 : decide (a3 < 0) = false := decide_eq_false c13
      clear c13
      have H' := qq.mk H
      clear H
      go_wp2_with (first | ((with_reducible refine jv (f := 14) rfl ?_);refine goesL_ (some 14) rfl rfl Try.func14 (by kernel_rfl) rfl #[.slice A0 l0.length c0] rfl (by (try simp only [List.map_toArray,List.map_cons,List.map_nil]);first | done | rfl | (simp only [List.length_drop,List.length_take];rfl)) ?_;(with_reducible refine (xv.calls k _ _ l0 true _ ?side1 ?side2 A7.out).mono ?_);(case side1 => repeat (first | exact (Kd.C_below HR0.out HB.out) | (with_reducible refine Kd.C_alloc ?_ _) | (with_reducible refine Kd.C_drewN ?_ _) | (with_reducible refine Kd.C_drew ?_)));(case side2 => exact HC0.out);rintro e w15 ⟨rfl,hb⟩;refine ⟨_,rfl,?_⟩;have n0_ := qq.mk (kj (g := gb101) (o := .cells #[.string a1_0,.int .i64 a1_1,.int .i64 a1_2,.int .i64 a1_3] 53 (0,0)) (by (with_reducible repeat (first | refine zz ?_ _ | refine zj ?_ | refine zq ?_ _));exact BK101.out) hb);have n1_ := qq.mk (zv (by repeat (first | (with_reducible first | exact HB.out | apply qj | apply qz | apply qk | refine qx ?_ GE101.out) | exact HB.out)) hb);clear BK101;clear HB;have BK101 := n0_;have HB := n1_;clear n0_ n1_;(try clear hb);(try clear hb2);(try clear hk);(try clear hi)))
      go_meet
      case rel => exact ⟨_,(decide (a3 > 100000000000)),(by first | rfl | (simp;done) | (simp [*];done)),H',⟨by first | omega | exact Nat.le_refl _⟩,⟨by (with_reducible repeat (first | refine zz ?_ _ | refine zj ?_ | refine zq ?_ _));exact BK101.out⟩,⟨by repeat (first | (with_reducible first | exact HB.out | apply qj | apply qz | apply qk | refine qx ?_ GE101.out) | exact HB.out)⟩⟩
  ·replace c8 := Bool.eq_false_iff.mpr c8
   subst c8
   have H1 : (xw.j0 k l0 a2 a3 true a1_0 a1_1 a1_2 a1_3) = some r := by rw [if_neg (show ¬ (false = true) by decide)] at H;exact H
   clear H
   have H := H1
   clear H1
   have H' := qq.mk H
   clear H
   go_wp2_with (first | ((with_reducible refine jv (f := 14) rfl ?_);refine goesL_ (some 14) rfl rfl Try.func14 (by kernel_rfl) rfl #[.slice A0 l0.length c0] rfl (by (try simp only [List.map_toArray,List.map_cons,List.map_nil]);first | done | rfl | (simp only [List.length_drop,List.length_take];rfl)) ?_;(with_reducible refine (xv.calls k _ _ l0 false _ ?side1 ?side2 A7.out).mono ?_);(case side1 => repeat (first | exact (Kd.C_below HR0.out HB.out) | (with_reducible refine Kd.C_alloc ?_ _) | (with_reducible refine Kd.C_drewN ?_ _) | (with_reducible refine Kd.C_drew ?_)));(case side2 => exact HC0.out);rintro e w16 ⟨rfl,hb⟩;refine ⟨_,rfl,?_⟩;have n0_ := qq.mk (kj (g := gb101) (o := .cells #[.string a1_0,.int .i64 a1_1,.int .i64 a1_2,.int .i64 a1_3] 53 (0,0)) (by (with_reducible repeat (first | refine zz ?_ _ | refine zj ?_ | refine zq ?_ _));exact BK101.out) hb);have n1_ := qq.mk (zv (by repeat (first | (with_reducible first | exact HB.out | apply qj | apply qz | apply qk | refine qx ?_ GE101.out) | exact HB.out)) hb);clear BK101;clear HB;have BK101 := n0_;have HB := n1_;clear n0_ n1_;(try clear hb);(try clear hb2);(try clear hk);(try clear hi)))
   go_meet
   case rel => exact ⟨_,(true),(by first | rfl | (simp;done) | (simp [*];done)),H',⟨by first | omega | exact Nat.le_refl _⟩,⟨by (with_reducible repeat (first | refine zz ?_ _ | refine zj ?_ | refine zq ?_ _));exact BK101.out⟩,⟨by repeat (first | (with_reducible first | exact HB.out | apply qj | apply qz | apply qk | refine qx ?_ GE101.out) | exact HB.out)⟩⟩
 case rest =>
  clear HC5
  try clear c1
  try clear c2
  try clear p2
  try clear c8
  try clear c9
  try clear c9b0
  try clear c11
  try clear c11b0
  try clear c13
  try clear c13b0
  try clear c14
  obtain ⟨kq,x31_4,rfl,HA,HJ4,BK101,HB⟩ := hcut
  cases kq with
  | zero => exact absurd HA.out (by simp [xw.j0])
  | succ kj4 =>
   have H := HA.out
   clear HA
   simp only [xw.j0] at H
   by_cases c17 : x31_4 = true
   ·subst c17
    have H1 : (some ([] : List (S53))) = some r := by rw [if_pos rfl] at H;exact H
    clear H
    have H := H1
    clear H1
    obtain rfl := Option.some.inj H
    go_wp2
    go_ret
    exact ⟨_,by first | rfl | (simp [*,jk,jj] <;> rfl),by first | exact Kd.R_nil _ _ _ _ _ | exact Kd.N_nil _ _ _ _ _ | exact Kd.V_nil _ _ _ _ _ | exact Kd.Q_nil _ _ _ _ _ | exact Kd.S_nil _ _ _ _ _,by repeat (first | (with_reducible first | exact HB.out | apply qj | apply qz | apply qk | refine qx ?_ GE101.out) | exact HB.out)⟩
   ·replace c17 := Bool.eq_false_iff.mpr c17
    subst c17
    have H1 : (xw.l0 kj4 a2 a3 ([] : List (S53)) false l0 (l0.length : Int) 0 a1_0 a1_1 a1_2 a1_3) = some r := by rw [if_neg (show ¬ (false = true) by decide)] at H;exact H
    clear H
    have H := H1
    clear H1
    have H' := qq.mk H
    clear H
    go_wp2
    go_loopg [9,10,34] kj4 (fun kq v9 v10 v34 w' => ∃ (x9_2 : List (S53)) (x10_2 : Bool) (x34_2 : Int),v10 = .bool x10_2 ∧ v34 = .int .i64 x34_2 ∧ qq (xw.l0 kq a2 a3 x9_2 x10_2 l0 (l0.length : Int) x34_2 a1_0 a1_1 a1_2 a1_3 = some r) ∧ qq (kq ≤ kj4) ∧ qq (Kd.R k53 53 w' w.heap.size (fun k_ => k_ ≠ gb101) v9 x9_2) ∧ qq (w'.heap[gb101]? = some (.cells #[.string a1_0,.int .i64 a1_1,.int .i64 a1_2,.int .i64 a1_3] 53 (0,0))) ∧ qq (Below w.heap.size w w'))
    case atStart => exact ⟨(([] : List (S53))),(false),(0),(by first | rfl | (simp;done) | (simp [*];done)),(by first | rfl | (simp;done) | (simp [*];done)),H',⟨Nat.le_refl _⟩,⟨by first | exact Kd.R_nil _ _ _ _ _ | exact Kd.N_nil _ _ _ _ _ | exact Kd.V_nil _ _ _ _ _ | exact Kd.Q_nil _ _ _ _ _ | exact Kd.S_nil _ _ _ _ _⟩,⟨by (with_reducible repeat (first | refine zz ?_ _ | refine zj ?_ | refine zq ?_ _));exact BK101.out⟩,⟨by repeat (first | (with_reducible first | exact HB.out | apply qj | apply qz | apply qk | refine qx ?_ GE101.out) | exact HB.out)⟩⟩
    case round =>
     clear H'
     try clear c1
     try clear c2
     try clear p2
     try clear c8
     try clear c9
     try clear c9b0
     try clear c11
     try clear c11b0
     try clear c13
     try clear c13b0
     try clear c14
     try clear c17
     try clear p2
     obtain ⟨x9_2,x10_2,x34_2,rfl,rfl,HA,HK2,HO_9,BK101,HB⟩ := hrel
     cases gk with
     | zero => exact absurd HA.out (by simp [xw.l0])
     | succ k2 =>
      have H := HA.out
      clear HA
      simp only [xw.l0] at H
      by_cases c18 : x34_2 < (l0.length : Int)
      ·rw [if_pos c18] at H
       have c18b0 : decide (x34_2 < (l0.length : Int)) = true := decide_eq_true c18
       clear c18
       by_cases c19 : 0 ≤ x34_2
       ·rw [if_pos c19] at H
        have c19b0 : decide (0 ≤ x34_2) = true := decide_eq_true c19
        clear c19
        by_cases c20 : x34_2 < (l0.length : Int)
        ·rw [if_pos c20] at H
         have c20b0 : decide (x34_2 < (l0.length : Int)) = true := decide_eq_true c20
         clear c20
         have HC21 := qq.mk H
         clear H
         have p103 : 0 ≤ (x34_2 : Int) := of_decide_eq_true (by assumption)
         have q103 : x34_2 < (l0.length : Int) := of_decide_eq_true (by assumption)
         obtain ⟨ad103,e103,hx103_0,hx103_1,hx103_2,hx103_3⟩ := at_T53 HR0.out x34_2 p103 q103
         cases e103
         replace hx103_0 := (HB.out.cell (World.block_lt_of_cell? w _ hx103_0)).trans hx103_0
         replace hx103_1 := (HB.out.cell (World.block_lt_of_cell? w _ hx103_1)).trans hx103_1
         replace hx103_2 := (HB.out.cell (World.block_lt_of_cell? w _ hx103_2)).trans hx103_2
         replace hx103_3 := (HB.out.cell (World.block_lt_of_cell? w _ hx103_3)).trans hx103_3
         replace p103 := eq_true p103
         replace q103 := eq_true q103
         go_upto_region 8 with (first | ((with_reducible refine gate_dst (N := 12) rfl ?_);refine box_event ?hg (N := 12) ?hd (cs := #[.string (⟨#[]⟩ : ByteArray),.int .i64 0,.int .i64 0,.int .i64 0]) (t := 53) ?hr ?_;(case hd => rfl);(case hg => rfl);(case hr => first | (go_simp;done) | (go_simp;rfl));intro gb104 hg w22 hbox hb;have n0_ := qq.mk (Kd.R_below (Kd.R_elderB (by (with_reducible repeat (first | apply Kd.jq | apply Kd.zx | apply Kd.jz));exact HO_9.out) gb104 (Nat.le_of_eq hg.symm)) hb);have n1_ := qq.mk (kj (g := gb101) (o := .cells #[.string a1_0,.int .i64 a1_1,.int .i64 a1_2,.int .i64 a1_3] 53 (0,0)) (by (with_reducible repeat (first | refine zz ?_ _ | refine zj ?_ | refine zq ?_ _));exact BK101.out) hb);have n2_ := qq.mk (zv (by repeat (first | (with_reducible first | exact HB.out | apply qj | apply qz | apply qk | refine qx ?_ GE101.out) | exact HB.out)) hb);have n3_ := qq.mk (hbox);have n4_ := qq.mk ((by rw [hg];exact (zw (by repeat (first | (with_reducible first | exact HB.out | apply qj | apply qz | apply qk | refine qx ?_ GE101.out) | exact HB.out))) : w.heap.size ≤ gb104));have n5_ := qq.mk ((by rw [hg];exact (zw (by repeat (first | (with_reducible first | exact HB.out | apply qj | apply qz | apply qk | refine qx ?_ GE101.out) | exact HB.out))) : w.heap.size ≤ gb104));have n6_ := qq.mk ((by rw [hg];exact Nat.ne_of_lt (blk_lt (g := gb101) (o := .cells #[.string a1_0,.int .i64 a1_1,.int .i64 a1_2,.int .i64 a1_3] 53 (0,0)) (by (with_reducible repeat (first | refine zz ?_ _ | refine zj ?_ | refine zq ?_ _));exact BK101.out)) : gb101 ≠ gb104));have n7_ := qq.mk ((by rw [hg];exact Nat.ne_of_gt (blk_lt (g := gb101) (o := .cells #[.string a1_0,.int .i64 a1_1,.int .i64 a1_2,.int .i64 a1_3] 53 (0,0)) (by (with_reducible repeat (first | refine zz ?_ _ | refine zj ?_ | refine zq ?_ _));exact BK101.out)) : gb104 ≠ gb101));clear HO_9;clear BK101;clear HB;have HO_9 := n0_;have BK101 := n1_;have HB := n2_;have BK104 := n3_;have GW104 := n4_;have GE104 := n5_;have NB101_104 := n6_;have NB104_101 := n7_;clear n0_ n1_ n2_ n3_ n4_ n5_ n6_ n7_;clear hb hbox hg;have hnb23 := NB104_101.out;have hnc23 := NB101_104.out;have hcz24_0 : w22.cell? ⟨gb104,0,none⟩ = some (.string (⟨#[]⟩ : ByteArray)) := (qw BK104.out 0).trans rfl;have hcz24_1 : w22.cell? ⟨gb104,1,none⟩ = some (.int .i64 0) := (qw BK104.out 1).trans rfl;have hcz24_2 : w22.cell? ⟨gb104,2,none⟩ = some (.int .i64 0) := (qw BK104.out 2).trans rfl;have hcz24_3 : w22.cell? ⟨gb104,3,none⟩ = some (.int .i64 0) := (qw BK104.out 3).trans rfl;have hfz24_0 := qv BK104.out 0;have hfz24_1 := qv BK104.out 1;have hfz24_2 := qv BK104.out 2;have hfz24_3 := qv BK104.out 3))
         (try simp only [Act.put,List.setIfInBounds_toArray,List.set_cons_zero,List.set_cons_succ])
         go_cut [47] (fun v47 wc => ∃ (kq : Nat) (x47_20 : Bool),v47 = .bool x47_20 ∧ qq (xw.j2 kq a2 a3 x9_2 x10_2 l0 (l0.length : Int) x34_2 x47_20 a1_0 a1_1 a1_2 a1_3 ((kw l0 x34_2).f0) ((kw l0 x34_2).f1) ((kw l0 x34_2).f2) ((kw l0 x34_2).f3) = some r) ∧ qq (kq ≤ k2) ∧ qq (Kd.R k53 53 wc w.heap.size (fun k_ => k_ ≠ gb101 ∧ k_ ≠ gb104) u9 x9_2) ∧ qq (wc.heap[gb101]? = some (.cells #[.string a1_0,.int .i64 a1_1,.int .i64 a1_2,.int .i64 a1_3] 53 (0,0))) ∧ qq (wc.heap[gb104]? = some (.cells #[.string ((kw l0 x34_2).f0),.int .i64 ((kw l0 x34_2).f1),.int .i64 ((kw l0 x34_2).f2),.int .i64 ((kw l0 x34_2).f3)] 53 (0,0))) ∧ qq (Below w.heap.size w wc))
         case first =>
          have H := HC21.out
          clear HC21
          by_cases c25 : x10_2 = true
          ·subst c25
           have H1 : (xw.j2 k2 a2 a3 x9_2 true l0 (l0.length : Int) x34_2 false a1_0 a1_1 a1_2 a1_3 ((kw l0 x34_2).f0) ((kw l0 x34_2).f1) ((kw l0 x34_2).f2) ((kw l0 x34_2).f3)) = some r := by rw [if_pos rfl] at H;exact H
           clear H
           have H := H1
           clear H1
           have H' := qq.mk H
           clear H
           go_wp2
           go_meet
           case rel => exact ⟨_,(false),(by first | rfl | (simp;done) | (simp [*];done)),H',⟨by have := HJ4.out;have := HK2.out;first | omega | exact Nat.le_refl _⟩,⟨by (with_reducible repeat (first | apply Kd.jq | apply Kd.zx | apply Kd.jz));exact Kd.R_mono (Kd.R_far (p := ⟨gb104,3,none⟩) (Kd.R_far (p := ⟨gb104,2,none⟩) (Kd.R_far (p := ⟨gb104,1,none⟩) (Kd.R_far (p := ⟨gb104,0,none⟩) (Kd.R_mono HO_9.out (fun k_ hk => (⟨hk,hk.2⟩ : _ ∧ k_ ≠ gb104))) (fun _ hk => hk.2) (.string ((kw l0 x34_2).f0))) (fun _ hk => hk.2) (.int .i64 ((kw l0 x34_2).f1))) (fun _ hk => hk.2) (.int .i64 ((kw l0 x34_2).f2))) (fun _ hk => hk.2) (.int .i64 ((kw l0 x34_2).f3))) (fun _ hk => ⟨hk.1.1,hk.1.2⟩)⟩,⟨by (with_reducible repeat (first | refine zz ?_ _ | refine zj ?_ | refine zq ?_ _));refine blk_far ?_ NB101_104.out _;(with_reducible repeat (first | refine zz ?_ _ | refine zj ?_ | refine zq ?_ _));refine blk_far ?_ NB101_104.out _;(with_reducible repeat (first | refine zz ?_ _ | refine zj ?_ | refine zq ?_ _));refine blk_far ?_ NB101_104.out _;(with_reducible repeat (first | refine zz ?_ _ | refine zj ?_ | refine zq ?_ _));refine blk_far ?_ NB101_104.out _;(with_reducible repeat (first | refine zz ?_ _ | refine zj ?_ | refine zq ?_ _));exact BK101.out⟩,⟨by (with_reducible repeat (first | refine zz ?_ _ | refine zj ?_ | refine zq ?_ _));refine blk_put (cs := #[.string ((kw l0 x34_2).f0),.int .i64 ((kw l0 x34_2).f1),.int .i64 ((kw l0 x34_2).f2),.int .i64 0]) ?_ 3 _ rfl;(with_reducible repeat (first | refine zz ?_ _ | refine zj ?_ | refine zq ?_ _));refine blk_put (cs := #[.string ((kw l0 x34_2).f0),.int .i64 ((kw l0 x34_2).f1),.int .i64 0,.int .i64 0]) ?_ 2 _ rfl;(with_reducible repeat (first | refine zz ?_ _ | refine zj ?_ | refine zq ?_ _));refine blk_put (cs := #[.string ((kw l0 x34_2).f0),.int .i64 0,.int .i64 0,.int .i64 0]) ?_ 1 _ rfl;(with_reducible repeat (first | refine zz ?_ _ | refine zj ?_ | refine zq ?_ _));refine blk_put (cs := #[.string (⟨#[]⟩ : ByteArray),.int .i64 0,.int .i64 0,.int .i64 0]) ?_ 0 _ rfl;(with_reducible repeat (first | refine zz ?_ _ | refine zj ?_ | refine zq ?_ _));exact BK104.out⟩,⟨by repeat (first | (with_reducible first | exact HB.out | apply qj | apply qz | apply qk | refine qx ?_ GE101.out | refine qx ?_ GE104.out) | exact HB.out)⟩⟩
          ·replace c25 := Bool.eq_false_iff.mpr c25
           subst c25
           have H1 : ((qqz.f k2 a1_0 ((kw l0 x34_2).f0)).bind fun t105 => (xw.j2 k2 a2 a3 x9_2 false l0 (l0.length : Int) x34_2 (decide (t105 ≤ 0)) a1_0 a1_1 a1_2 a1_3 ((kw l0 x34_2).f0) ((kw l0 x34_2).f1) ((kw l0 x34_2).f2) ((kw l0 x34_2).f3))) = some r := by rw [if_neg (show ¬ (false = true) by decide)] at H;exact H
           clear H
           have H := H1
           clear H1
           replace H := Option.bind_eq_some_iff.mp H
           obtain ⟨t105,A260,H⟩ := H
           replace H : (xw.j2 k2 a2 a3 x9_2 false l0 (l0.length : Int) x34_2 (decide (t105 ≤ 0)) a1_0 a1_1 a1_2 a1_3 ((kw l0 x34_2).f0) ((kw l0 x34_2).f1) ((kw l0 x34_2).f2) ((kw l0 x34_2).f3)) = some r := H
           have A26 := qq.mk A260
           clear A260
           have H' := qq.mk H
           clear H
           have hnb27 := NB101_104.out
           have hnc27 := NB104_101.out
           have hcz28_0 : w22.cell? ⟨gb101,0,none⟩ = some (.string a1_0) := (qw BK101.out 0).trans rfl
           have hcz28_1 : w22.cell? ⟨gb101,1,none⟩ = some (.int .i64 a1_1) := (qw BK101.out 1).trans rfl
           have hcz28_2 : w22.cell? ⟨gb101,2,none⟩ = some (.int .i64 a1_2) := (qw BK101.out 2).trans rfl
           have hcz28_3 : w22.cell? ⟨gb101,3,none⟩ = some (.int .i64 a1_3) := (qw BK101.out 3).trans rfl
           have hfz28_0 := qv BK101.out 0
           have hfz28_1 := qv BK101.out 1
           have hfz28_2 := qv BK101.out 2
           have hfz28_3 := qv BK101.out 3
           have hcz29_0 : w22.cell? ⟨gb104,0,none⟩ = some (.string (⟨#[]⟩ : ByteArray)) := (qw BK104.out 0).trans rfl
           have hcz29_1 : w22.cell? ⟨gb104,1,none⟩ = some (.int .i64 0) := (qw BK104.out 1).trans rfl
           have hcz29_2 : w22.cell? ⟨gb104,2,none⟩ = some (.int .i64 0) := (qw BK104.out 2).trans rfl
           have hcz29_3 : w22.cell? ⟨gb104,3,none⟩ = some (.int .i64 0) := (qw BK104.out 3).trans rfl
           have hfz29_0 := qv BK104.out 0
           have hfz29_1 := qv BK104.out 1
           have hfz29_2 := qv BK104.out 2
           have hfz29_3 := qv BK104.out 3
           go_wp2_with (first | (go_at_call 38;(with_reducible refine (qqz.calls k2 a1_0 ((kw l0 x34_2).f0) t105 _ A26.out).mono ?_);rintro e w' ⟨rfl,⟨nd,rfl⟩⟩))
           go_meet
           case rel => exact ⟨_,(decide (t105 ≤ 0)),(by first | rfl | (simp;done) | (simp [*];done)),H',⟨by have := HJ4.out;have := HK2.out;first | omega | exact Nat.le_refl _⟩,⟨by (with_reducible repeat (first | apply Kd.jq | apply Kd.zx | apply Kd.jz));exact Kd.R_mono (Kd.R_far (p := ⟨gb104,3,none⟩) (Kd.R_far (p := ⟨gb104,2,none⟩) (Kd.R_far (p := ⟨gb104,1,none⟩) (Kd.R_far (p := ⟨gb104,0,none⟩) (Kd.R_mono HO_9.out (fun k_ hk => (⟨hk,hk.2⟩ : _ ∧ k_ ≠ gb104))) (fun _ hk => hk.2) (.string ((kw l0 x34_2).f0))) (fun _ hk => hk.2) (.int .i64 ((kw l0 x34_2).f1))) (fun _ hk => hk.2) (.int .i64 ((kw l0 x34_2).f2))) (fun _ hk => hk.2) (.int .i64 ((kw l0 x34_2).f3))) (fun _ hk => ⟨hk.1.1,hk.1.2⟩)⟩,⟨by (with_reducible repeat (first | refine zz ?_ _ | refine zj ?_ | refine zq ?_ _));refine blk_far ?_ NB101_104.out _;(with_reducible repeat (first | refine zz ?_ _ | refine zj ?_ | refine zq ?_ _));refine blk_far ?_ NB101_104.out _;(with_reducible repeat (first | refine zz ?_ _ | refine zj ?_ | refine zq ?_ _));refine blk_far ?_ NB101_104.out _;(with_reducible repeat (first | refine zz ?_ _ | refine zj ?_ | refine zq ?_ _));refine blk_far ?_ NB101_104.out _;(with_reducible repeat (first | refine zz ?_ _ | refine zj ?_ | refine zq ?_ _));exact BK101.out⟩,⟨by (with_reducible repeat (first | refine zz ?_ _ | refine zj ?_ | refine zq ?_ _));refine blk_put (cs := #[.string ((kw l0 x34_2).f0),.int .i64 ((kw l0 x34_2).f1),.int .i64 ((kw l0 x34_2).f2),.int .i64 0]) ?_ 3 _ rfl;(with_reducible repeat (first | refine zz ?_ _ | refine zj ?_ | refine zq ?_ _));refine blk_put (cs := #[.string ((kw l0 x34_2).f0),.int .i64 ((kw l0 x34_2).f1),.int .i64 0,.int .i64 0]) ?_ 2 _ rfl;(with_reducible repeat (first | refine zz ?_ _ | refine zj ?_ | refine zq ?_ _));refine blk_put (cs := #[.string ((kw l0 x34_2).f0),.int .i64 0,.int .i64 0,.int .i64 0]) ?_ 1 _ rfl;(with_reducible repeat (first | refine zz ?_ _ | refine zj ?_ | refine zq ?_ _));refine blk_put (cs := #[.string (⟨#[]⟩ : ByteArray),.int .i64 0,.int .i64 0,.int .i64 0]) ?_ 0 _ rfl;(with_reducible repeat (first | refine zz ?_ _ | refine zj ?_ | refine zq ?_ _));exact BK104.out⟩,⟨by repeat (first | (with_reducible first | exact HB.out | apply qj | apply qz | apply qk | refine qx ?_ GE101.out | refine qx ?_ GE104.out) | exact HB.out)⟩⟩
         case rest =>
          clear HC21
          try clear c1
          try clear p1
          try clear q1
          try clear hx1
          try clear c2
          try clear p2
          try clear c8
          try clear c9
          try clear c9b0
          try clear p10
          try clear q10
          try clear hx10
          try clear c11
          try clear c11b0
          try clear c13
          try clear c13b0
          try clear c14
          try clear c17
          try clear c18
          try clear c18b0
          try clear c19
          try clear c19b0
          try clear c20
          try clear c20b0
          try clear c23
          try clear c24
          try clear c25
          try clear c27
          try clear hcz24_0
          try clear hcz24_1
          try clear hcz24_2
          try clear hcz24_3
          try clear hcz28_0
          try clear hcz28_1
          try clear hcz28_2
          try clear hcz28_3
          try clear hcz29_0
          try clear hcz29_1
          try clear hcz29_2
          try clear hcz29_3
          try clear hfz24_0
          try clear hfz24_1
          try clear hfz24_2
          try clear hfz24_3
          try clear hfz28_0
          try clear hfz28_1
          try clear hfz28_2
          try clear hfz28_3
          try clear hfz29_0
          try clear hfz29_1
          try clear hfz29_2
          try clear hfz29_3
          try clear hx103_0
          try clear hx103_1
          try clear hx103_2
          try clear hx103_3
          try clear p103
          try clear p2
          try clear q103
          obtain ⟨kq,x47_20,rfl,HA,HJ20,HO_9,BK101,BK104,HB⟩ := hcut
          cases kq with
          | zero => exact absurd HA.out (by simp [xw.j2])
          | succ kj20 =>
           have H := HA.out
           clear HA
           simp only [xw.j2] at H
           by_cases c30 : x47_20 = true
           ·subst c30
            have H1 : (if x9_2.length < 3518437208883 then ((some (x9_2 ++ [(⟨a1_0,a1_1,a1_2,a1_3⟩ : S53)] : List (S53))).bind fun y106 => (if ((kw l0 x34_2).f3) < a2 then (xw.l0 kj20 a2 a3 y106 true l0 (l0.length : Int) (wrap64 (x34_2 + 1)) a1_0 a1_1 a1_2 a1_3) else (if ((kw l0 x34_2).f2) > (wrap64 (a2 + a3)) then (xw.l0 kj20 a2 a3 y106 true l0 (l0.length : Int) (wrap64 (x34_2 + 1)) a1_0 a1_1 a1_2 a1_3) else ((xx.f ((kw l0 x34_2).f3) (wrap64 (a2 + a3))).bind fun t109 => (if y106.length < 3518437208883 then (xw.l0 kj20 a2 a3 (y106 ++ [(⟨((kw l0 x34_2).f0),((kw l0 x34_2).f1),((kw l0 x34_2).f2),t109⟩ : S53)]) true l0 (l0.length : Int) (wrap64 (x34_2 + 1)) a1_0 a1_1 a1_2 a1_3) else (none)))))) else (none)) = some r := by rw [if_pos rfl] at H;exact H
            clear H
            have H := H1
            clear H1
            by_cases c31 : x9_2.length < 3518437208883
            ·rw [if_pos c31] at H
             have LMc31 := qq.mk c31
             clear c31
             obtain ⟨y106,hy106⟩ : ∃ y_ : List (S53),y_ = (x9_2 ++ [(⟨a1_0,a1_1,a1_2,a1_3⟩ : S53)]) := ⟨_,rfl⟩
             replace H : (if ((kw l0 x34_2).f3) < a2 then (xw.l0 kj20 a2 a3 y106 true l0 (l0.length : Int) (wrap64 (x34_2 + 1)) a1_0 a1_1 a1_2 a1_3) else (if ((kw l0 x34_2).f2) > (wrap64 (a2 + a3)) then (xw.l0 kj20 a2 a3 y106 true l0 (l0.length : Int) (wrap64 (x34_2 + 1)) a1_0 a1_1 a1_2 a1_3) else ((xx.f ((kw l0 x34_2).f3) (wrap64 (a2 + a3))).bind fun t109 => (if y106.length < 3518437208883 then (xw.l0 kj20 a2 a3 (y106 ++ [(⟨((kw l0 x34_2).f0),((kw l0 x34_2).f1),((kw l0 x34_2).f2),t109⟩ : S53)]) true l0 (l0.length : Int) (wrap64 (x34_2 + 1)) a1_0 a1_1 a1_2 a1_3) else (none))))) = some r := by first | (rw [hy106];with_reducible exact H) | (have H2_ := (Option.bind_some _ _).symm.trans H;rw [hy106];with_reducible exact H2_) | (have H2_ := (Option.bind_some _ _).symm.trans H;with_reducible exact H2_) | with_reducible exact H | (rw [hy106];exact H) | exact H
             have Ny106 := qq.mk hy106
             clear hy106
             by_cases c32 : ((kw l0 x34_2).f3) < a2
             ·rw [if_pos c32] at H
              have c32b0 : decide (((kw l0 x34_2).f3) < a2) = true := decide_eq_true c32
              clear c32
              have H' := qq.mk H
              clear H
              have hnb33 := NB101_104.out
              have hnc33 := NB104_101.out
              have hcz34_0 : wc.cell? ⟨gb101,0,none⟩ = some (.string a1_0) := (qw BK101.out 0).trans rfl
              have hcz34_1 : wc.cell? ⟨gb101,1,none⟩ = some (.int .i64 a1_1) := (qw BK101.out 1).trans rfl
              have hcz34_2 : wc.cell? ⟨gb101,2,none⟩ = some (.int .i64 a1_2) := (qw BK101.out 2).trans rfl
              have hcz34_3 : wc.cell? ⟨gb101,3,none⟩ = some (.int .i64 a1_3) := (qw BK101.out 3).trans rfl
              have hfz34_0 := qv BK101.out 0
              have hfz34_1 := qv BK101.out 1
              have hfz34_2 := qv BK101.out 2
              have hfz34_3 := qv BK101.out 3
              go_wp2_with (first | ((with_reducible refine gate_builtin (b := .append) (xs := #[.tmp 48,.tmp 50]) rfl ?_);at_builtin;refine Kd.R_append k53 (w0 := w) w.heap.size rfl (.tmp 48) (.tmp 50) 34 53 (.agg #[(.string ⟨#[]⟩),(.int .i64 0),(.int .i64 0),(.int .i64 0)]) 40 rfl Try.underlying34 info53 rfl (by decide) (by omega) u9 x9_2 (⟨a1_0,a1_1,a1_2,a1_3⟩ : S53) [.string a1_0,.int .i64 a1_1,.int .i64 a1_2,.int .i64 a1_3] (fun k_ => k_ ≠ gb101 ∧ k_ ≠ gb104) (fun _ => False) rfl rfl ?aP (fun _ hk => hk.elim) ?aF ?aO ?aB ?aS ?aL ?_;(case aP => exact k53_mkM _ _ _ (⟨a1_0,a1_1,a1_2,a1_3⟩ : S53));(case aB => exact (by repeat (first | (with_reducible first | exact HB.out | apply qj | apply qz | apply qk | refine qx ?_ GE101.out | refine qx ?_ GE104.out) | exact HB.out)));(case aF => exact (fun k_ hk => ⟨Kd.freshB (g := gb101) (o := .cells #[.string a1_0,.int .i64 a1_1,.int .i64 a1_2,.int .i64 a1_3] 53 (0,0)) (by (with_reducible repeat (first | refine zz ?_ _ | refine zj ?_ | refine zq ?_ _));exact BK101.out) k_ hk,Kd.freshB (g := gb104) (o := .cells #[.string ((kw l0 x34_2).f0),.int .i64 ((kw l0 x34_2).f1),.int .i64 ((kw l0 x34_2).f2),.int .i64 ((kw l0 x34_2).f3)] 53 (0,0)) (by (with_reducible repeat (first | refine zz ?_ _ | refine zj ?_ | refine zq ?_ _));exact BK104.out) k_ hk⟩));(case aO => exact (by (with_reducible repeat (first | apply Kd.jq | apply Kd.zx | apply Kd.jz));exact HO_9.out));(case aS => exact (zw (by repeat (first | (with_reducible first | exact HB.out | apply qj | apply qz | apply qk | refine qx ?_ GE101.out | refine qx ?_ GE104.out) | exact HB.out))));(case aL => have := LMc31.out;omega);intro v107 w35 ho hb hg hat;rw [← Ny106.out] at ho;have n0_ := qq.mk (blk_grown (g := gb101) (o := .cells #[.string a1_0,.int .i64 a1_1,.int .i64 a1_2,.int .i64 a1_3] 53 (0,0)) (by (with_reducible repeat (first | refine zz ?_ _ | refine zj ?_ | refine zq ?_ _));exact BK101.out) hg (Kd.R_away HO_9.out (fun _ hk => hk.1)));have n1_ := qq.mk (blk_grown (g := gb104) (o := .cells #[.string ((kw l0 x34_2).f0),.int .i64 ((kw l0 x34_2).f1),.int .i64 ((kw l0 x34_2).f2),.int .i64 ((kw l0 x34_2).f3)] 53 (0,0)) (by (with_reducible repeat (first | refine zz ?_ _ | refine zj ?_ | refine zq ?_ _));exact BK104.out) hg (Kd.R_away HO_9.out (fun _ hk => hk.2)));have n2_ := qq.mk (hb);have n3_ := qq.mk (ho);clear BK101;clear BK104;clear HB;clear HO_9;have BK101 := n0_;have BK104 := n1_;have HB := n2_;have HO108 := n3_;clear n0_ n1_ n2_ n3_;clear ho hb hg hat;have hcz36_0 : w35.cell? ⟨gb104,0,none⟩ = some (.string ((kw l0 x34_2).f0)) := (qw BK104.out 0).trans rfl;have hcz36_1 : w35.cell? ⟨gb104,1,none⟩ = some (.int .i64 ((kw l0 x34_2).f1)) := (qw BK104.out 1).trans rfl;have hcz36_2 : w35.cell? ⟨gb104,2,none⟩ = some (.int .i64 ((kw l0 x34_2).f2)) := (qw BK104.out 2).trans rfl;have hcz36_3 : w35.cell? ⟨gb104,3,none⟩ = some (.int .i64 ((kw l0 x34_2).f3)) := (qw BK104.out 3).trans rfl;have hfz36_0 := qv BK104.out 0;have hfz36_1 := qv BK104.out 1;have hfz36_2 := qv BK104.out 2;have hfz36_3 := qv BK104.out 3))
              go_roundg kj20
              case measure => have := HJ4.out;have := HK2.out;have := HJ20.out;omega
              case rel => exact ⟨(y106),(true),(wrap64 (x34_2 + 1)),(by first | rfl | (simp;done) | (simp [*];done)),(by first | rfl | (simp;done) | (simp [*];done)),H',⟨by have := HJ4.out;have := HK2.out;have := HJ20.out;omega⟩,⟨by (with_reducible repeat (first | apply Kd.jq | apply Kd.zx | apply Kd.jz));exact Kd.R_mono HO108.out (fun _ hk => hk.1)⟩,⟨by (with_reducible repeat (first | refine zz ?_ _ | refine zj ?_ | refine zq ?_ _));exact BK101.out⟩,⟨by repeat (first | (with_reducible first | exact HB.out | apply qj | apply qz | apply qk | refine qx ?_ GE101.out | refine qx ?_ GE104.out) | exact HB.out)⟩⟩
             ·rw [if_neg c32] at H
              have c32b0 : decide (((kw l0 x34_2).f3) < a2) = false := decide_eq_false c32
              clear c32
              by_cases c37 : ((kw l0 x34_2).f2) > (wrap64 (a2 + a3))
              ·rw [if_pos c37] at H
               have c37b0 : decide ((wrap64 (a2 + a3)) < ((kw l0 x34_2).f2)) = true := decide_eq_true c37
               clear c37
               have H' := qq.mk H
               clear H
               have hnb38 := NB101_104.out
               have hnc38 := NB104_101.out
               have hcz39_0 : wc.cell? ⟨gb101,0,none⟩ = some (.string a1_0) := (qw BK101.out 0).trans rfl
               have hcz39_1 : wc.cell? ⟨gb101,1,none⟩ = some (.int .i64 a1_1) := (qw BK101.out 1).trans rfl
               have hcz39_2 : wc.cell? ⟨gb101,2,none⟩ = some (.int .i64 a1_2) := (qw BK101.out 2).trans rfl
               have hcz39_3 : wc.cell? ⟨gb101,3,none⟩ = some (.int .i64 a1_3) := (qw BK101.out 3).trans rfl
               have hfz39_0 := qv BK101.out 0
               have hfz39_1 := qv BK101.out 1
               have hfz39_2 := qv BK101.out 2
               have hfz39_3 := qv BK101.out 3
               go_wp2_with (first | ((with_reducible refine gate_builtin (b := .append) (xs := #[.tmp 48,.tmp 50]) rfl ?_);at_builtin;refine Kd.R_append k53 (w0 := w) w.heap.size rfl (.tmp 48) (.tmp 50) 34 53 (.agg #[(.string ⟨#[]⟩),(.int .i64 0),(.int .i64 0),(.int .i64 0)]) 40 rfl Try.underlying34 info53 rfl (by decide) (by omega) u9 x9_2 (⟨a1_0,a1_1,a1_2,a1_3⟩ : S53) [.string a1_0,.int .i64 a1_1,.int .i64 a1_2,.int .i64 a1_3] (fun k_ => k_ ≠ gb101 ∧ k_ ≠ gb104) (fun _ => False) rfl rfl ?aP (fun _ hk => hk.elim) ?aF ?aO ?aB ?aS ?aL ?_;(case aP => exact k53_mkM _ _ _ (⟨a1_0,a1_1,a1_2,a1_3⟩ : S53));(case aB => exact (by repeat (first | (with_reducible first | exact HB.out | apply qj | apply qz | apply qk | refine qx ?_ GE101.out | refine qx ?_ GE104.out) | exact HB.out)));(case aF => exact (fun k_ hk => ⟨Kd.freshB (g := gb101) (o := .cells #[.string a1_0,.int .i64 a1_1,.int .i64 a1_2,.int .i64 a1_3] 53 (0,0)) (by (with_reducible repeat (first | refine zz ?_ _ | refine zj ?_ | refine zq ?_ _));exact BK101.out) k_ hk,Kd.freshB (g := gb104) (o := .cells #[.string ((kw l0 x34_2).f0),.int .i64 ((kw l0 x34_2).f1),.int .i64 ((kw l0 x34_2).f2),.int .i64 ((kw l0 x34_2).f3)] 53 (0,0)) (by (with_reducible repeat (first | refine zz ?_ _ | refine zj ?_ | refine zq ?_ _));exact BK104.out) k_ hk⟩));(case aO => exact (by (with_reducible repeat (first | apply Kd.jq | apply Kd.zx | apply Kd.jz));exact HO_9.out));(case aS => exact (zw (by repeat (first | (with_reducible first | exact HB.out | apply qj | apply qz | apply qk | refine qx ?_ GE101.out | refine qx ?_ GE104.out) | exact HB.out))));(case aL => have := LMc31.out;omega);intro v107 w40 ho hb hg hat;rw [← Ny106.out] at ho;have n0_ := qq.mk (blk_grown (g := gb101) (o := .cells #[.string a1_0,.int .i64 a1_1,.int .i64 a1_2,.int .i64 a1_3] 53 (0,0)) (by (with_reducible repeat (first | refine zz ?_ _ | refine zj ?_ | refine zq ?_ _));exact BK101.out) hg (Kd.R_away HO_9.out (fun _ hk => hk.1)));have n1_ := qq.mk (blk_grown (g := gb104) (o := .cells #[.string ((kw l0 x34_2).f0),.int .i64 ((kw l0 x34_2).f1),.int .i64 ((kw l0 x34_2).f2),.int .i64 ((kw l0 x34_2).f3)] 53 (0,0)) (by (with_reducible repeat (first | refine zz ?_ _ | refine zj ?_ | refine zq ?_ _));exact BK104.out) hg (Kd.R_away HO_9.out (fun _ hk => hk.2)));have n2_ := qq.mk (hb);have n3_ := qq.mk (ho);clear BK101;clear BK104;clear HB;clear HO_9;have BK101 := n0_;have BK104 := n1_;have HB := n2_;have HO108 := n3_;clear n0_ n1_ n2_ n3_;clear ho hb hg hat;have hcz41_0 : w40.cell? ⟨gb104,0,none⟩ = some (.string ((kw l0 x34_2).f0)) := (qw BK104.out 0).trans rfl;have hcz41_1 : w40.cell? ⟨gb104,1,none⟩ = some (.int .i64 ((kw l0 x34_2).f1)) := (qw BK104.out 1).trans rfl;have hcz41_2 : w40.cell? ⟨gb104,2,none⟩ = some (.int .i64 ((kw l0 x34_2).f2)) := (qw BK104.out 2).trans rfl;have hcz41_3 : w40.cell? ⟨gb104,3,none⟩ = some (.int .i64 ((kw l0 x34_2).f3)) := (qw BK104.out 3).trans rfl;have hfz41_0 := qv BK104.out 0;have hfz41_1 := qv BK104.out 1;have hfz41_2 := qv BK104.out 2;have hfz41_3 := qv BK104.out 3))
               go_roundg kj20
               case measure => have := HJ4.out;have := HK2.out;have := HJ20.out;omega
               case rel => exact ⟨(y106),(true),(wrap64 (x34_2 + 1)),(by first | rfl | (simp;done) | (simp [*];done)),(by first | rfl | (simp;done) | (simp [*];done)),H',⟨by have := HJ4.out;have := HK2.out;have := HJ20.out;omega⟩,⟨by (with_reducible repeat (first | apply Kd.jq | apply Kd.zx | apply Kd.jz));exact Kd.R_mono HO108.out (fun _ hk => hk.1)⟩,⟨by (with_reducible repeat (first | refine zz ?_ _ | refine zj ?_ | refine zq ?_ _));exact BK101.out⟩,⟨by repeat (first | (with_reducible first | exact HB.out | apply qj | apply qz | apply qk | refine qx ?_ GE101.out | refine qx ?_ GE104.out) | exact HB.out)⟩⟩
              ·rw [if_neg c37] at H
               have c37b0 : decide ((wrap64 (a2 + a3)) < ((kw l0 x34_2).f2)) = false := decide_eq_false c37
               clear c37
               replace H := Option.bind_eq_some_iff.mp H
               obtain ⟨t109,A420,H⟩ := H
               replace H : (if y106.length < 3518437208883 then (xw.l0 kj20 a2 a3 (y106 ++ [(⟨((kw l0 x34_2).f0),((kw l0 x34_2).f1),((kw l0 x34_2).f2),t109⟩ : S53)]) true l0 (l0.length : Int) (wrap64 (x34_2 + 1)) a1_0 a1_1 a1_2 a1_3) else (none)) = some r := H
               have A42 := qq.mk A420
               clear A420
               by_cases c43 : y106.length < 3518437208883
               ·rw [if_pos c43] at H
                have LMc43 := qq.mk c43
                clear c43
                obtain ⟨y110,hy110⟩ : ∃ y_ : List (S53),y_ = (y106 ++ [(⟨((kw l0 x34_2).f0),((kw l0 x34_2).f1),((kw l0 x34_2).f2),t109⟩ : S53)]) := ⟨_,rfl⟩
                replace H : (xw.l0 kj20 a2 a3 y110 true l0 (l0.length : Int) (wrap64 (x34_2 + 1)) a1_0 a1_1 a1_2 a1_3) = some r := by first | (rw [hy110];with_reducible exact H) | (have H2_ := (Option.bind_some _ _).symm.trans H;rw [hy110];with_reducible exact H2_) | (have H2_ := (Option.bind_some _ _).symm.trans H;with_reducible exact H2_) | with_reducible exact H | (rw [hy110];exact H) | exact H
                have Ny110 := qq.mk hy110
                clear hy110
                have H' := qq.mk H
                clear H
                have hnb44 := NB101_104.out
                have hnc44 := NB104_101.out
                have hcz45_0 : wc.cell? ⟨gb101,0,none⟩ = some (.string a1_0) := (qw BK101.out 0).trans rfl
                have hcz45_1 : wc.cell? ⟨gb101,1,none⟩ = some (.int .i64 a1_1) := (qw BK101.out 1).trans rfl
                have hcz45_2 : wc.cell? ⟨gb101,2,none⟩ = some (.int .i64 a1_2) := (qw BK101.out 2).trans rfl
                have hcz45_3 : wc.cell? ⟨gb101,3,none⟩ = some (.int .i64 a1_3) := (qw BK101.out 3).trans rfl
                have hfz45_0 := qv BK101.out 0
                have hfz45_1 := qv BK101.out 1
                have hfz45_2 := qv BK101.out 2
                have hfz45_3 := qv BK101.out 3
                go_wp2_with (first | ((with_reducible refine gate_builtin (b := .append) (xs := #[.tmp 48,.tmp 50]) rfl ?_);at_builtin;refine Kd.R_append k53 (w0 := w) w.heap.size rfl (.tmp 48) (.tmp 50) 34 53 (.agg #[(.string ⟨#[]⟩),(.int .i64 0),(.int .i64 0),(.int .i64 0)]) 40 rfl Try.underlying34 info53 rfl (by decide) (by omega) u9 x9_2 (⟨a1_0,a1_1,a1_2,a1_3⟩ : S53) [.string a1_0,.int .i64 a1_1,.int .i64 a1_2,.int .i64 a1_3] (fun k_ => k_ ≠ gb101 ∧ k_ ≠ gb104) (fun _ => False) rfl rfl ?aP (fun _ hk => hk.elim) ?aF ?aO ?aB ?aS ?aL ?_;(case aP => exact k53_mkM _ _ _ (⟨a1_0,a1_1,a1_2,a1_3⟩ : S53));(case aB => exact (by repeat (first | (with_reducible first | exact HB.out | apply qj | apply qz | apply qk | refine qx ?_ GE101.out | refine qx ?_ GE104.out) | exact HB.out)));(case aF => exact (fun k_ hk => ⟨Kd.freshB (g := gb101) (o := .cells #[.string a1_0,.int .i64 a1_1,.int .i64 a1_2,.int .i64 a1_3] 53 (0,0)) (by (with_reducible repeat (first | refine zz ?_ _ | refine zj ?_ | refine zq ?_ _));exact BK101.out) k_ hk,Kd.freshB (g := gb104) (o := .cells #[.string ((kw l0 x34_2).f0),.int .i64 ((kw l0 x34_2).f1),.int .i64 ((kw l0 x34_2).f2),.int .i64 ((kw l0 x34_2).f3)] 53 (0,0)) (by (with_reducible repeat (first | refine zz ?_ _ | refine zj ?_ | refine zq ?_ _));exact BK104.out) k_ hk⟩));(case aO => exact (by (with_reducible repeat (first | apply Kd.jq | apply Kd.zx | apply Kd.jz));exact HO_9.out));(case aS => exact (zw (by repeat (first | (with_reducible first | exact HB.out | apply qj | apply qz | apply qk | refine qx ?_ GE101.out | refine qx ?_ GE104.out) | exact HB.out))));(case aL => have := LMc31.out;omega);intro v107 w46 ho hb hg hat;rw [← Ny106.out] at ho;have n0_ := qq.mk (blk_grown (g := gb101) (o := .cells #[.string a1_0,.int .i64 a1_1,.int .i64 a1_2,.int .i64 a1_3] 53 (0,0)) (by (with_reducible repeat (first | refine zz ?_ _ | refine zj ?_ | refine zq ?_ _));exact BK101.out) hg (Kd.R_away HO_9.out (fun _ hk => hk.1)));have n1_ := qq.mk (blk_grown (g := gb104) (o := .cells #[.string ((kw l0 x34_2).f0),.int .i64 ((kw l0 x34_2).f1),.int .i64 ((kw l0 x34_2).f2),.int .i64 ((kw l0 x34_2).f3)] 53 (0,0)) (by (with_reducible repeat (first | refine zz ?_ _ | refine zj ?_ | refine zq ?_ _));exact BK104.out) hg (Kd.R_away HO_9.out (fun _ hk => hk.2)));have n2_ := qq.mk (hb);have n3_ := qq.mk (ho);clear BK101;clear BK104;clear HB;clear HO_9;have BK101 := n0_;have BK104 := n1_;have HB := n2_;have HO108 := n3_;clear n0_ n1_ n2_ n3_;clear ho hb hg hat;have hcz47_0 : w46.cell? ⟨gb104,0,none⟩ = some (.string ((kw l0 x34_2).f0)) := (qw BK104.out 0).trans rfl;have hcz47_1 : w46.cell? ⟨gb104,1,none⟩ = some (.int .i64 ((kw l0 x34_2).f1)) := (qw BK104.out 1).trans rfl;have hcz47_2 : w46.cell? ⟨gb104,2,none⟩ = some (.int .i64 ((kw l0 x34_2).f2)) := (qw BK104.out 2).trans rfl;have hcz47_3 : w46.cell? ⟨gb104,3,none⟩ = some (.int .i64 ((kw l0 x34_2).f3)) := (qw BK104.out 3).trans rfl;have hfz47_0 := qv BK104.out 0;have hfz47_1 := qv BK104.out 1;have hfz47_2 := qv BK104.out 2;have hfz47_3 := qv BK104.out 3) | ((with_reducible refine jv (f := 54) rfl ?_);refine goesL_ (some 69) rfl rfl Try.func54 (by kernel_rfl) rfl #[.int .i64 ((kw l0 x34_2).f3),.int .i64 (wrap64 (a2 + a3))] rfl (by (try simp only [List.map_toArray,List.map_cons,List.map_nil]);first | done | rfl | (simp only [List.length_drop,List.length_take];rfl)) ?_;(with_reducible refine (xx.calls ((kw l0 x34_2).f3) (wrap64 (a2 + a3)) t109 _ A42.out).mono ?_);rintro e w' ⟨rfl,⟨nd,rfl⟩⟩;refine ⟨_,rfl,?_⟩;(try (rw [drewN_self w46];generalize hq_ : World.drewN w46 _ = w46;have n0_ : qq (Kd.R k53 53 w46 w.heap.size (fun k_ => k_ ≠ gb101 ∧ k_ ≠ gb104) v107 y106) := ⟨by rw [← hq_];exact (by (with_reducible repeat (first | apply Kd.jq | apply Kd.zx | apply Kd.jz));exact HO108.out)⟩;have n1_ : qq (w46.heap[gb101]? = some (.cells #[.string a1_0,.int .i64 a1_1,.int .i64 a1_2,.int .i64 a1_3] 53 (0,0))) := ⟨by rw [← hq_];exact (by (with_reducible repeat (first | refine zz ?_ _ | refine zj ?_ | refine zq ?_ _));exact BK101.out)⟩;have n2_ : qq (w46.heap[gb104]? = some (.cells #[.string ((kw l0 x34_2).f0),.int .i64 ((kw l0 x34_2).f1),.int .i64 ((kw l0 x34_2).f2),.int .i64 ((kw l0 x34_2).f3)] 53 (0,0))) := ⟨by rw [← hq_];exact (by (with_reducible repeat (first | refine zz ?_ _ | refine zj ?_ | refine zq ?_ _));exact BK104.out)⟩;have n3_ : qq (Below w.heap.size w w46) := ⟨by rw [← hq_];exact (by repeat (first | (with_reducible first | exact HB.out | apply qj | apply qz | apply qk | refine qx ?_ GE101.out | refine qx ?_ GE104.out) | exact HB.out))⟩;clear HO108 BK101 BK104 HB hq_;have HO108 := n0_;have BK101 := n1_;have BK104 := n2_;have HB := n3_;clear n0_ n1_ n2_ n3_;have hcq101_0 : w46.cell? ⟨gb101,0,none⟩ = some (.string a1_0) := (qw BK101.out 0).trans rfl;have hfq101_0 := qv BK101.out 0;have hcq101_1 : w46.cell? ⟨gb101,1,none⟩ = some (.int .i64 a1_1) := (qw BK101.out 1).trans rfl;have hfq101_1 := qv BK101.out 1;have hcq101_2 : w46.cell? ⟨gb101,2,none⟩ = some (.int .i64 a1_2) := (qw BK101.out 2).trans rfl;have hfq101_2 := qv BK101.out 2;have hcq101_3 : w46.cell? ⟨gb101,3,none⟩ = some (.int .i64 a1_3) := (qw BK101.out 3).trans rfl;have hfq101_3 := qv BK101.out 3;have hcq104_0 : w46.cell? ⟨gb104,0,none⟩ = some (.string ((kw l0 x34_2).f0)) := (qw BK104.out 0).trans rfl;have hfq104_0 := qv BK104.out 0;have hcq104_1 : w46.cell? ⟨gb104,1,none⟩ = some (.int .i64 ((kw l0 x34_2).f1)) := (qw BK104.out 1).trans rfl;have hfq104_1 := qv BK104.out 1;have hcq104_2 : w46.cell? ⟨gb104,2,none⟩ = some (.int .i64 ((kw l0 x34_2).f2)) := (qw BK104.out 2).trans rfl;have hfq104_2 := qv BK104.out 2;have hcq104_3 : w46.cell? ⟨gb104,3,none⟩ = some (.int .i64 ((kw l0 x34_2).f3)) := (qw BK104.out 3).trans rfl;have hfq104_3 := qv BK104.out 3))) | ((with_reducible refine gate_builtin (b := .append) (xs := #[.tmp 71,.tmp 73]) rfl ?_);at_builtin;refine Kd.R_append k53 (w0 := w) w.heap.size rfl (.tmp 71) (.tmp 73) 34 53 (.agg #[(.string ⟨#[]⟩),(.int .i64 0),(.int .i64 0),(.int .i64 0)]) 40 rfl Try.underlying34 info53 rfl (by decide) (by omega) v107 y106 (⟨((kw l0 x34_2).f0),((kw l0 x34_2).f1),((kw l0 x34_2).f2),t109⟩ : S53) [.string ((kw l0 x34_2).f0),.int .i64 ((kw l0 x34_2).f1),.int .i64 ((kw l0 x34_2).f2),.int .i64 t109] (fun k_ => k_ ≠ gb101 ∧ k_ ≠ gb104) (fun _ => False) rfl (by first | (go_simp;done) | (go_simp;rfl)) ?aP (fun _ hk => hk.elim) ?aF ?aO ?aB ?aS ?aL ?_;(case aP => exact k53_mkM _ _ _ (⟨((kw l0 x34_2).f0),((kw l0 x34_2).f1),((kw l0 x34_2).f2),t109⟩ : S53));(case aB => exact (by repeat (first | (with_reducible first | exact HB.out | apply qj | apply qz | apply qk | refine qx ?_ GE101.out | refine qx ?_ GE104.out) | exact HB.out)));(case aF => exact (fun k_ hk => ⟨Kd.freshB (g := gb101) (o := .cells #[.string a1_0,.int .i64 a1_1,.int .i64 a1_2,.int .i64 a1_3] 53 (0,0)) (by (with_reducible repeat (first | refine zz ?_ _ | refine zj ?_ | refine zq ?_ _));refine blk_far ?_ NB101_104.out _;(with_reducible repeat (first | refine zz ?_ _ | refine zj ?_ | refine zq ?_ _));exact BK101.out) k_ hk,Kd.freshB (g := gb104) (o := .cells #[.string ((kw l0 x34_2).f0),.int .i64 ((kw l0 x34_2).f1),.int .i64 ((kw l0 x34_2).f2),.int .i64 t109] 53 (0,0)) (by (with_reducible repeat (first | refine zz ?_ _ | refine zj ?_ | refine zq ?_ _));refine blk_put (cs := #[.string ((kw l0 x34_2).f0),.int .i64 ((kw l0 x34_2).f1),.int .i64 ((kw l0 x34_2).f2),.int .i64 ((kw l0 x34_2).f3)]) ?_ 3 _ rfl;(with_reducible repeat (first | refine zz ?_ _ | refine zj ?_ | refine zq ?_ _));exact BK104.out) k_ hk⟩));(case aO => exact (by (with_reducible repeat (first | apply Kd.jq | apply Kd.zx | apply Kd.jz));exact Kd.R_mono (Kd.R_far (p := ⟨gb104,3,none⟩) (Kd.R_mono HO108.out (fun k_ hk => (⟨hk,hk.2⟩ : _ ∧ k_ ≠ gb104))) (fun _ hk => hk.2) (.int .i64 t109)) (fun _ hk => ⟨hk.1.1,hk.1.2⟩)));(case aS => exact (zw (by repeat (first | (with_reducible first | exact HB.out | apply qj | apply qz | apply qk | refine qx ?_ GE101.out | refine qx ?_ GE104.out) | exact HB.out))));(case aL => have := LMc43.out;omega);intro v111 w48 ho hb hg hat;rw [← Ny110.out] at ho;have n0_ := qq.mk (blk_grown (g := gb101) (o := .cells #[.string a1_0,.int .i64 a1_1,.int .i64 a1_2,.int .i64 a1_3] 53 (0,0)) (by (with_reducible repeat (first | refine zz ?_ _ | refine zj ?_ | refine zq ?_ _));refine blk_far ?_ NB101_104.out _;(with_reducible repeat (first | refine zz ?_ _ | refine zj ?_ | refine zq ?_ _));exact BK101.out) hg (Kd.R_away HO108.out (fun _ hk => hk.1)));have n1_ := qq.mk (blk_grown (g := gb104) (o := .cells #[.string ((kw l0 x34_2).f0),.int .i64 ((kw l0 x34_2).f1),.int .i64 ((kw l0 x34_2).f2),.int .i64 t109] 53 (0,0)) (by (with_reducible repeat (first | refine zz ?_ _ | refine zj ?_ | refine zq ?_ _));refine blk_put (cs := #[.string ((kw l0 x34_2).f0),.int .i64 ((kw l0 x34_2).f1),.int .i64 ((kw l0 x34_2).f2),.int .i64 ((kw l0 x34_2).f3)]) ?_ 3 _ rfl;(with_reducible repeat (first | refine zz ?_ _ | refine zj ?_ | refine zq ?_ _));exact BK104.out) hg (Kd.R_away HO108.out (fun _ hk => hk.2)));have n2_ := qq.mk (hb);have n3_ := qq.mk (ho);clear BK101;clear BK104;clear HB;clear HO108;have BK101 := n0_;have BK104 := n1_;have HB := n2_;have HO112 := n3_;clear n0_ n1_ n2_ n3_;clear ho hb hg hat))
                go_roundg kj20
                case measure => have := HJ4.out;have := HK2.out;have := HJ20.out;omega
                case rel => exact ⟨(y110),(true),(wrap64 (x34_2 + 1)),(by first | rfl | (simp;done) | (simp [*];done)),(by first | rfl | (simp;done) | (simp [*];done)),H',⟨by have := HJ4.out;have := HK2.out;have := HJ20.out;omega⟩,⟨by (with_reducible repeat (first | apply Kd.jq | apply Kd.zx | apply Kd.jz));exact Kd.R_mono HO112.out (fun _ hk => hk.1)⟩,⟨by (with_reducible repeat (first | refine zz ?_ _ | refine zj ?_ | refine zq ?_ _));exact BK101.out⟩,⟨by repeat (first | (with_reducible first | exact HB.out | apply qj | apply qz | apply qk | refine qx ?_ GE101.out | refine qx ?_ GE104.out) | exact HB.out)⟩⟩
               ·rw [if_neg c43] at H
                exact absurd H (by simp)
            ·rw [if_neg c31] at H
             exact absurd H (by simp)
           ·replace c30 := Bool.eq_false_iff.mpr c30
            subst c30
            have H1 : (if ((kw l0 x34_2).f3) < a2 then (xw.l0 kj20 a2 a3 x9_2 x10_2 l0 (l0.length : Int) (wrap64 (x34_2 + 1)) a1_0 a1_1 a1_2 a1_3) else (if ((kw l0 x34_2).f2) > (wrap64 (a2 + a3)) then (xw.l0 kj20 a2 a3 x9_2 x10_2 l0 (l0.length : Int) (wrap64 (x34_2 + 1)) a1_0 a1_1 a1_2 a1_3) else ((xx.f ((kw l0 x34_2).f3) (wrap64 (a2 + a3))).bind fun t113 => (if x9_2.length < 3518437208883 then (xw.l0 kj20 a2 a3 (x9_2 ++ [(⟨((kw l0 x34_2).f0),((kw l0 x34_2).f1),((kw l0 x34_2).f2),t113⟩ : S53)]) x10_2 l0 (l0.length : Int) (wrap64 (x34_2 + 1)) a1_0 a1_1 a1_2 a1_3) else (none))))) = some r := by rw [if_neg (show ¬ (false = true) by decide)] at H;exact H
            clear H
            have H := H1
            clear H1
            by_cases c49 : ((kw l0 x34_2).f3) < a2
            ·rw [if_pos c49] at H
             have c49b0 : decide (((kw l0 x34_2).f3) < a2) = true := decide_eq_true c49
             clear c49
             have H' := qq.mk H
             clear H
             have hnb50 := NB104_101.out
             have hnc50 := NB101_104.out
             have hcz51_0 : wc.cell? ⟨gb104,0,none⟩ = some (.string ((kw l0 x34_2).f0)) := (qw BK104.out 0).trans rfl
             have hcz51_1 : wc.cell? ⟨gb104,1,none⟩ = some (.int .i64 ((kw l0 x34_2).f1)) := (qw BK104.out 1).trans rfl
             have hcz51_2 : wc.cell? ⟨gb104,2,none⟩ = some (.int .i64 ((kw l0 x34_2).f2)) := (qw BK104.out 2).trans rfl
             have hcz51_3 : wc.cell? ⟨gb104,3,none⟩ = some (.int .i64 ((kw l0 x34_2).f3)) := (qw BK104.out 3).trans rfl
             have hfz51_0 := qv BK104.out 0
             have hfz51_1 := qv BK104.out 1
             have hfz51_2 := qv BK104.out 2
             have hfz51_3 := qv BK104.out 3
             go_wp2
             go_roundg kj20
             case measure => have := HJ4.out;have := HK2.out;have := HJ20.out;omega
             case rel => exact ⟨(x9_2),(x10_2),(wrap64 (x34_2 + 1)),(by first | rfl | (simp;done) | (simp [*];done)),(by first | rfl | (simp;done) | (simp [*];done)),H',⟨by have := HJ4.out;have := HK2.out;have := HJ20.out;omega⟩,⟨by (with_reducible repeat (first | apply Kd.jq | apply Kd.zx | apply Kd.jz));exact Kd.R_mono HO_9.out (fun _ hk => hk.1)⟩,⟨by (with_reducible repeat (first | refine zz ?_ _ | refine zj ?_ | refine zq ?_ _));exact BK101.out⟩,⟨by repeat (first | (with_reducible first | exact HB.out | apply qj | apply qz | apply qk | refine qx ?_ GE101.out | refine qx ?_ GE104.out) | exact HB.out)⟩⟩
            ·rw [if_neg c49] at H
             have c49b0 : decide (((kw l0 x34_2).f3) < a2) = false := decide_eq_false c49
             clear c49
             by_cases c52 : ((kw l0 x34_2).f2) > (wrap64 (a2 + a3))
             ·rw [if_pos c52] at H
              have c52b0 : decide ((wrap64 (a2 + a3)) < ((kw l0 x34_2).f2)) = true := decide_eq_true c52
              clear c52
              have H' := qq.mk H
              clear H
              have hnb53 := NB104_101.out
              have hnc53 := NB101_104.out
              have hcz54_0 : wc.cell? ⟨gb104,0,none⟩ = some (.string ((kw l0 x34_2).f0)) := (qw BK104.out 0).trans rfl
              have hcz54_1 : wc.cell? ⟨gb104,1,none⟩ = some (.int .i64 ((kw l0 x34_2).f1)) := (qw BK104.out 1).trans rfl
              have hcz54_2 : wc.cell? ⟨gb104,2,none⟩ = some (.int .i64 ((kw l0 x34_2).f2)) := (qw BK104.out 2).trans rfl
              have hcz54_3 : wc.cell? ⟨gb104,3,none⟩ = some (.int .i64 ((kw l0 x34_2).f3)) := (qw BK104.out 3).trans rfl
              have hfz54_0 := qv BK104.out 0
              have hfz54_1 := qv BK104.out 1
              have hfz54_2 := qv BK104.out 2
              have hfz54_3 := qv BK104.out 3
              go_wp2
              go_roundg kj20
              case measure => have := HJ4.out;have := HK2.out;have := HJ20.out;omega
              case rel => exact ⟨(x9_2),(x10_2),(wrap64 (x34_2 + 1)),(by first | rfl | (simp;done) | (simp [*];done)),(by first | rfl | (simp;done) | (simp [*];done)),H',⟨by have := HJ4.out;have := HK2.out;have := HJ20.out;omega⟩,⟨by (with_reducible repeat (first | apply Kd.jq | apply Kd.zx | apply Kd.jz));exact Kd.R_mono HO_9.out (fun _ hk => hk.1)⟩,⟨by (with_reducible repeat (first | refine zz ?_ _ | refine zj ?_ | refine zq ?_ _));exact BK101.out⟩,⟨by repeat (first | (with_reducible first | exact HB.out | apply qj | apply qz | apply qk | refine qx ?_ GE101.out | refine qx ?_ GE104.out) | exact HB.out)⟩⟩
             ·rw [if_neg c52] at H
              have c52b0 : decide ((wrap64 (a2 + a3)) < ((kw l0 x34_2).f2)) = false := decide_eq_false c52
              clear c52
              replace H := Option.bind_eq_some_iff.mp H
              obtain ⟨t113,A550,H⟩ := H
              replace H : (if x9_2.length < 3518437208883 then (xw.l0 kj20 a2 a3 (x9_2 ++ [(⟨((kw l0 x34_2).f0),((kw l0 x34_2).f1),((kw l0 x34_2).f2),t113⟩ : S53)]) x10_2 l0 (l0.length : Int) (wrap64 (x34_2 + 1)) a1_0 a1_1 a1_2 a1_3) else (none)) = some r := H
              have A55 := qq.mk A550
              clear A550
              by_cases c56 : x9_2.length < 3518437208883
              ·rw [if_pos c56] at H
               have LMc56 := qq.mk c56
               clear c56
               obtain ⟨y114,hy114⟩ : ∃ y_ : List (S53),y_ = (x9_2 ++ [(⟨((kw l0 x34_2).f0),((kw l0 x34_2).f1),((kw l0 x34_2).f2),t113⟩ : S53)]) := ⟨_,rfl⟩
               replace H : (xw.l0 kj20 a2 a3 y114 x10_2 l0 (l0.length : Int) (wrap64 (x34_2 + 1)) a1_0 a1_1 a1_2 a1_3) = some r := by first | (rw [hy114];with_reducible exact H) | (have H2_ := (Option.bind_some _ _).symm.trans H;rw [hy114];with_reducible exact H2_) | (have H2_ := (Option.bind_some _ _).symm.trans H;with_reducible exact H2_) | with_reducible exact H | (rw [hy114];exact H) | exact H
               have Ny114 := qq.mk hy114
               clear hy114
               have H' := qq.mk H
               clear H
               have hnb57 := NB104_101.out
               have hnc57 := NB101_104.out
               have hcz58_0 : wc.cell? ⟨gb104,0,none⟩ = some (.string ((kw l0 x34_2).f0)) := (qw BK104.out 0).trans rfl
               have hcz58_1 : wc.cell? ⟨gb104,1,none⟩ = some (.int .i64 ((kw l0 x34_2).f1)) := (qw BK104.out 1).trans rfl
               have hcz58_2 : wc.cell? ⟨gb104,2,none⟩ = some (.int .i64 ((kw l0 x34_2).f2)) := (qw BK104.out 2).trans rfl
               have hcz58_3 : wc.cell? ⟨gb104,3,none⟩ = some (.int .i64 ((kw l0 x34_2).f3)) := (qw BK104.out 3).trans rfl
               have hfz58_0 := qv BK104.out 0
               have hfz58_1 := qv BK104.out 1
               have hfz58_2 := qv BK104.out 2
               have hfz58_3 := qv BK104.out 3
               go_wp2_with (first | ((with_reducible refine jv (f := 54) rfl ?_);refine goesL_ (some 69) rfl rfl Try.func54 (by kernel_rfl) rfl #[.int .i64 ((kw l0 x34_2).f3),.int .i64 (wrap64 (a2 + a3))] rfl (by (try simp only [List.map_toArray,List.map_cons,List.map_nil]);first | done | rfl | (simp only [List.length_drop,List.length_take];rfl)) ?_;(with_reducible refine (xx.calls ((kw l0 x34_2).f3) (wrap64 (a2 + a3)) t113 _ A55.out).mono ?_);rintro e w' ⟨rfl,⟨nd,rfl⟩⟩;refine ⟨_,rfl,?_⟩;(try (rw [drewN_self wc];generalize hq_ : World.drewN wc _ = wc;have n0_ : qq (Kd.R k53 53 wc w.heap.size (fun k_ => k_ ≠ gb101 ∧ k_ ≠ gb104) u9 x9_2) := ⟨by rw [← hq_];exact (by (with_reducible repeat (first | apply Kd.jq | apply Kd.zx | apply Kd.jz));exact HO_9.out)⟩;have n1_ : qq (wc.heap[gb101]? = some (.cells #[.string a1_0,.int .i64 a1_1,.int .i64 a1_2,.int .i64 a1_3] 53 (0,0))) := ⟨by rw [← hq_];exact (by (with_reducible repeat (first | refine zz ?_ _ | refine zj ?_ | refine zq ?_ _));exact BK101.out)⟩;have n2_ : qq (wc.heap[gb104]? = some (.cells #[.string ((kw l0 x34_2).f0),.int .i64 ((kw l0 x34_2).f1),.int .i64 ((kw l0 x34_2).f2),.int .i64 ((kw l0 x34_2).f3)] 53 (0,0))) := ⟨by rw [← hq_];exact (by (with_reducible repeat (first | refine zz ?_ _ | refine zj ?_ | refine zq ?_ _));exact BK104.out)⟩;have n3_ : qq (Below w.heap.size w wc) := ⟨by rw [← hq_];exact (by repeat (first | (with_reducible first | exact HB.out | apply qj | apply qz | apply qk | refine qx ?_ GE101.out | refine qx ?_ GE104.out) | exact HB.out))⟩;clear HO_9 BK101 BK104 HB hq_;have HO_9 := n0_;have BK101 := n1_;have BK104 := n2_;have HB := n3_;clear n0_ n1_ n2_ n3_;have hcq101_0 : wc.cell? ⟨gb101,0,none⟩ = some (.string a1_0) := (qw BK101.out 0).trans rfl;have hfq101_0 := qv BK101.out 0;have hcq101_1 : wc.cell? ⟨gb101,1,none⟩ = some (.int .i64 a1_1) := (qw BK101.out 1).trans rfl;have hfq101_1 := qv BK101.out 1;have hcq101_2 : wc.cell? ⟨gb101,2,none⟩ = some (.int .i64 a1_2) := (qw BK101.out 2).trans rfl;have hfq101_2 := qv BK101.out 2;have hcq101_3 : wc.cell? ⟨gb101,3,none⟩ = some (.int .i64 a1_3) := (qw BK101.out 3).trans rfl;have hfq101_3 := qv BK101.out 3;have hcq104_0 : wc.cell? ⟨gb104,0,none⟩ = some (.string ((kw l0 x34_2).f0)) := (qw BK104.out 0).trans rfl;have hfq104_0 := qv BK104.out 0;have hcq104_1 : wc.cell? ⟨gb104,1,none⟩ = some (.int .i64 ((kw l0 x34_2).f1)) := (qw BK104.out 1).trans rfl;have hfq104_1 := qv BK104.out 1;have hcq104_2 : wc.cell? ⟨gb104,2,none⟩ = some (.int .i64 ((kw l0 x34_2).f2)) := (qw BK104.out 2).trans rfl;have hfq104_2 := qv BK104.out 2;have hcq104_3 : wc.cell? ⟨gb104,3,none⟩ = some (.int .i64 ((kw l0 x34_2).f3)) := (qw BK104.out 3).trans rfl;have hfq104_3 := qv BK104.out 3))) | ((with_reducible refine gate_builtin (b := .append) (xs := #[.tmp 71,.tmp 73]) rfl ?_);at_builtin;refine Kd.R_append k53 (w0 := w) w.heap.size rfl (.tmp 71) (.tmp 73) 34 53 (.agg #[(.string ⟨#[]⟩),(.int .i64 0),(.int .i64 0),(.int .i64 0)]) 40 rfl Try.underlying34 info53 rfl (by decide) (by omega) u9 x9_2 (⟨((kw l0 x34_2).f0),((kw l0 x34_2).f1),((kw l0 x34_2).f2),t113⟩ : S53) [.string ((kw l0 x34_2).f0),.int .i64 ((kw l0 x34_2).f1),.int .i64 ((kw l0 x34_2).f2),.int .i64 t113] (fun k_ => k_ ≠ gb101 ∧ k_ ≠ gb104) (fun _ => False) rfl (by first | (go_simp;done) | (go_simp;rfl)) ?aP (fun _ hk => hk.elim) ?aF ?aO ?aB ?aS ?aL ?_;(case aP => exact k53_mkM _ _ _ (⟨((kw l0 x34_2).f0),((kw l0 x34_2).f1),((kw l0 x34_2).f2),t113⟩ : S53));(case aB => exact (by repeat (first | (with_reducible first | exact HB.out | apply qj | apply qz | apply qk | refine qx ?_ GE101.out | refine qx ?_ GE104.out) | exact HB.out)));(case aF => exact (fun k_ hk => ⟨Kd.freshB (g := gb101) (o := .cells #[.string a1_0,.int .i64 a1_1,.int .i64 a1_2,.int .i64 a1_3] 53 (0,0)) (by (with_reducible repeat (first | refine zz ?_ _ | refine zj ?_ | refine zq ?_ _));refine blk_far ?_ NB101_104.out _;(with_reducible repeat (first | refine zz ?_ _ | refine zj ?_ | refine zq ?_ _));exact BK101.out) k_ hk,Kd.freshB (g := gb104) (o := .cells #[.string ((kw l0 x34_2).f0),.int .i64 ((kw l0 x34_2).f1),.int .i64 ((kw l0 x34_2).f2),.int .i64 t113] 53 (0,0)) (by (with_reducible repeat (first | refine zz ?_ _ | refine zj ?_ | refine zq ?_ _));refine blk_put (cs := #[.string ((kw l0 x34_2).f0),.int .i64 ((kw l0 x34_2).f1),.int .i64 ((kw l0 x34_2).f2),.int .i64 ((kw l0 x34_2).f3)]) ?_ 3 _ rfl;(with_reducible repeat (first | refine zz ?_ _ | refine zj ?_ | refine zq ?_ _));exact BK104.out) k_ hk⟩));(case aO => exact (by (with_reducible repeat (first | apply Kd.jq | apply Kd.zx | apply Kd.jz));exact Kd.R_mono (Kd.R_far (p := ⟨gb104,3,none⟩) (Kd.R_mono HO_9.out (fun k_ hk => (⟨hk,hk.2⟩ : _ ∧ k_ ≠ gb104))) (fun _ hk => hk.2) (.int .i64 t113)) (fun _ hk => ⟨hk.1.1,hk.1.2⟩)));(case aS => exact (zw (by repeat (first | (with_reducible first | exact HB.out | apply qj | apply qz | apply qk | refine qx ?_ GE101.out | refine qx ?_ GE104.out) | exact HB.out))));(case aL => have := LMc56.out;omega);intro v115 w59 ho hb hg hat;rw [← Ny114.out] at ho;have n0_ := qq.mk (blk_grown (g := gb101) (o := .cells #[.string a1_0,.int .i64 a1_1,.int .i64 a1_2,.int .i64 a1_3] 53 (0,0)) (by (with_reducible repeat (first | refine zz ?_ _ | refine zj ?_ | refine zq ?_ _));refine blk_far ?_ NB101_104.out _;(with_reducible repeat (first | refine zz ?_ _ | refine zj ?_ | refine zq ?_ _));exact BK101.out) hg (Kd.R_away HO_9.out (fun _ hk => hk.1)));have n1_ := qq.mk (blk_grown (g := gb104) (o := .cells #[.string ((kw l0 x34_2).f0),.int .i64 ((kw l0 x34_2).f1),.int .i64 ((kw l0 x34_2).f2),.int .i64 t113] 53 (0,0)) (by (with_reducible repeat (first | refine zz ?_ _ | refine zj ?_ | refine zq ?_ _));refine blk_put (cs := #[.string ((kw l0 x34_2).f0),.int .i64 ((kw l0 x34_2).f1),.int .i64 ((kw l0 x34_2).f2),.int .i64 ((kw l0 x34_2).f3)]) ?_ 3 _ rfl;(with_reducible repeat (first | refine zz ?_ _ | refine zj ?_ | refine zq ?_ _));exact BK104.out) hg (Kd.R_away HO_9.out (fun _ hk => hk.2)));have n2_ := qq.mk (hb);have n3_ := qq.mk (ho);clear BK101;clear BK104;clear HB;clear HO_9;have BK101 := n0_;have BK104 := n1_;have HB := n2_;have HO116 := n3_;clear n0_ n1_ n2_ n3_;clear ho hb hg hat))
               go_roundg kj20
               case measure => have := HJ4.out;have := HK2.out;have := HJ20.out;omega
               case rel => exact ⟨(y114),(x10_2),(wrap64 (x34_2 + 1)),(by first | rfl | (simp;done) | (simp [*];done)),(by first | rfl | (simp;done) | (simp [*];done)),H',⟨by have := HJ4.out;have := HK2.out;have := HJ20.out;omega⟩,⟨by (with_reducible repeat (first | apply Kd.jq | apply Kd.zx | apply Kd.jz));exact Kd.R_mono HO116.out (fun _ hk => hk.1)⟩,⟨by (with_reducible repeat (first | refine zz ?_ _ | refine zj ?_ | refine zq ?_ _));exact BK101.out⟩,⟨by repeat (first | (with_reducible first | exact HB.out | apply qj | apply qz | apply qk | refine qx ?_ GE101.out | refine qx ?_ GE104.out) | exact HB.out)⟩⟩
              ·rw [if_neg c56] at H
               exact absurd H (by simp)
        ·rw [if_neg c20] at H
         exact absurd H (by simp)
       ·rw [if_neg c19] at H
        exact absurd H (by simp)
      ·rw [if_neg c18] at H
       have c18b0 : decide (x34_2 < (l0.length : Int)) = false := decide_eq_false c18
       clear c18
       by_cases c60 : x10_2 = true
       ·subst c60
        have H1 : ((xv.f k2 x9_2).bind fun t117 => (if t117 = true then (some x9_2) else (some ([] : List (S53))))) = some r := by rw [if_pos rfl] at H;exact H
        clear H
        have H := H1
        clear H1
        replace H := Option.bind_eq_some_iff.mp H
        obtain ⟨t117,A610,H⟩ := H
        replace H : (if t117 = true then (some x9_2) else (some ([] : List (S53)))) = some r := H
        have A61 := qq.mk A610
        clear A610
        by_cases c62 : t117 = true
        ·subst c62
         have H1 : (some x9_2) = some r := by rw [if_pos rfl] at H;exact H
         clear H
         have H := H1
         clear H1
         obtain rfl := Option.some.inj H
         obtain ⟨Ao63,co63,eo63⟩ := Kd.R_slice HO_9.out
         subst eo63
         go_wp2_with (first | ((with_reducible refine jv (f := 14) rfl ?_);refine goesL_ (some 83) rfl rfl Try.func14 (by kernel_rfl) rfl #[.slice Ao63 x9_2.length co63] rfl (by (try simp only [List.map_toArray,List.map_cons,List.map_nil]);first | done | rfl | (simp only [List.length_drop,List.length_take];rfl)) ?_;(with_reducible refine (xv.calls k2 _ _ x9_2 true _ ?side1 ?side2 A61.out).mono ?_);(case side1 => repeat (first | exact (Kd.R_reads' HO_9.out).2.2 | (with_reducible refine Kd.C_alloc ?_ _) | (with_reducible refine Kd.C_drewN ?_ _) | (with_reducible refine Kd.C_drew ?_)));(case side2 => exact (Kd.R_reads' HO_9.out).2.1);rintro e w64 ⟨rfl,hb⟩;refine ⟨_,rfl,?_⟩;have n0_ := qq.mk (Kd.R_below (by (with_reducible repeat (first | apply Kd.jq | apply Kd.zx | apply Kd.jz));exact HO_9.out) hb);have n1_ := qq.mk (kj (g := gb101) (o := .cells #[.string a1_0,.int .i64 a1_1,.int .i64 a1_2,.int .i64 a1_3] 53 (0,0)) (by (with_reducible repeat (first | refine zz ?_ _ | refine zj ?_ | refine zq ?_ _));exact BK101.out) hb);have n2_ := qq.mk (zv (by repeat (first | (with_reducible first | exact HB.out | apply qj | apply qz | apply qk | refine qx ?_ GE101.out) | exact HB.out)) hb);clear HO_9;clear BK101;clear HB;have HO_9 := n0_;have BK101 := n1_;have HB := n2_;clear n0_ n1_ n2_;(try clear hb);(try clear hb2);(try clear hk);(try clear hi)))
         go_ret
         exact ⟨_,by first | rfl | (simp [*,jk,jj] <;> rfl),by (with_reducible repeat (first | apply Kd.jq | apply Kd.zx | apply Kd.jz));exact Kd.R_mono HO_9.out (fun _ hk => trivial),by repeat (first | (with_reducible first | exact HB.out | apply qj | apply qz | apply qk | refine qx ?_ GE101.out) | exact HB.out)⟩
        ·replace c62 := Bool.eq_false_iff.mpr c62
         subst c62
         have H1 : (some ([] : List (S53))) = some r := by rw [if_neg (show ¬ (false = true) by decide)] at H;exact H
         clear H
         have H := H1
         clear H1
         obtain rfl := Option.some.inj H
         obtain ⟨Ao65,co65,eo65⟩ := Kd.R_slice HO_9.out
         subst eo65
         go_wp2_with (first | ((with_reducible refine jv (f := 14) rfl ?_);refine goesL_ (some 83) rfl rfl Try.func14 (by kernel_rfl) rfl #[.slice Ao65 x9_2.length co65] rfl (by (try simp only [List.map_toArray,List.map_cons,List.map_nil]);first | done | rfl | (simp only [List.length_drop,List.length_take];rfl)) ?_;(with_reducible refine (xv.calls k2 _ _ x9_2 false _ ?side1 ?side2 A61.out).mono ?_);(case side1 => repeat (first | exact (Kd.R_reads' HO_9.out).2.2 | (with_reducible refine Kd.C_alloc ?_ _) | (with_reducible refine Kd.C_drewN ?_ _) | (with_reducible refine Kd.C_drew ?_)));(case side2 => exact (Kd.R_reads' HO_9.out).2.1);rintro e w66 ⟨rfl,hb⟩;refine ⟨_,rfl,?_⟩;have n0_ := qq.mk (Kd.R_below (by (with_reducible repeat (first | apply Kd.jq | apply Kd.zx | apply Kd.jz));exact HO_9.out) hb);have n1_ := qq.mk (kj (g := gb101) (o := .cells #[.string a1_0,.int .i64 a1_1,.int .i64 a1_2,.int .i64 a1_3] 53 (0,0)) (by (with_reducible repeat (first | refine zz ?_ _ | refine zj ?_ | refine zq ?_ _));exact BK101.out) hb);have n2_ := qq.mk (zv (by repeat (first | (with_reducible first | exact HB.out | apply qj | apply qz | apply qk | refine qx ?_ GE101.out) | exact HB.out)) hb);clear HO_9;clear BK101;clear HB;have HO_9 := n0_;have BK101 := n1_;have HB := n2_;clear n0_ n1_ n2_;(try clear hb);(try clear hb2);(try clear hk);(try clear hi)))
         go_ret
         exact ⟨_,by first | rfl | (simp [*,jk,jj] <;> rfl),by first | exact Kd.R_nil _ _ _ _ _ | exact Kd.N_nil _ _ _ _ _ | exact Kd.V_nil _ _ _ _ _ | exact Kd.Q_nil _ _ _ _ _ | exact Kd.S_nil _ _ _ _ _,by repeat (first | (with_reducible first | exact HB.out | apply qj | apply qz | apply qk | refine qx ?_ GE101.out) | exact HB.out)⟩
       ·replace c60 := Bool.eq_false_iff.mpr c60
        subst c60
        have H1 : (if x9_2.length < 3518437208883 then ((some (x9_2 ++ [(⟨a1_0,a1_1,a1_2,a1_3⟩ : S53)] : List (S53))).bind fun y118 => ((xv.f k2 y118).bind fun t121 => (if t121 = true then (some y118) else (some ([] : List (S53)))))) else (none)) = some r := by rw [if_neg (show ¬ (false = true) by decide)] at H;exact H
        clear H
        have H := H1
        clear H1
        by_cases c67 : x9_2.length < 3518437208883
        ·rw [if_pos c67] at H
         have LMc67 := qq.mk c67
         clear c67
         obtain ⟨y118,hy118⟩ : ∃ y_ : List (S53),y_ = (x9_2 ++ [(⟨a1_0,a1_1,a1_2,a1_3⟩ : S53)]) := ⟨_,rfl⟩
         replace H : ((xv.f k2 y118).bind fun t121 => (if t121 = true then (some y118) else (some ([] : List (S53))))) = some r := by first | (rw [hy118];with_reducible exact H) | (have H2_ := (Option.bind_some _ _).symm.trans H;rw [hy118];with_reducible exact H2_) | (have H2_ := (Option.bind_some _ _).symm.trans H;with_reducible exact H2_) | with_reducible exact H | (rw [hy118];exact H) | exact H
         have Ny118 := qq.mk hy118
         clear hy118
         replace H := Option.bind_eq_some_iff.mp H
         obtain ⟨t121,A680,H⟩ := H
         replace H : (if t121 = true then (some y118) else (some ([] : List (S53)))) = some r := H
         have A68 := qq.mk A680
         clear A680
         by_cases c69 : t121 = true
         ·subst c69
          have H1 : (some y118) = some r := by rw [if_pos rfl] at H;exact H
          clear H
          have H := H1
          clear H1
          obtain rfl := Option.some.inj H
          have hcz70_0 : wr.cell? ⟨gb101,0,none⟩ = some (.string a1_0) := (qw BK101.out 0).trans rfl
          have hcz70_1 : wr.cell? ⟨gb101,1,none⟩ = some (.int .i64 a1_1) := (qw BK101.out 1).trans rfl
          have hcz70_2 : wr.cell? ⟨gb101,2,none⟩ = some (.int .i64 a1_2) := (qw BK101.out 2).trans rfl
          have hcz70_3 : wr.cell? ⟨gb101,3,none⟩ = some (.int .i64 a1_3) := (qw BK101.out 3).trans rfl
          have hfz70_0 := qv BK101.out 0
          have hfz70_1 := qv BK101.out 1
          have hfz70_2 := qv BK101.out 2
          have hfz70_3 := qv BK101.out 3
          go_wp2_with (first | ((with_reducible refine gate_builtin (b := .append) (xs := #[.tmp 78,.tmp 80]) rfl ?_);at_builtin;refine Kd.R_append k53 (w0 := w) w.heap.size rfl (.tmp 78) (.tmp 80) 34 53 (.agg #[(.string ⟨#[]⟩),(.int .i64 0),(.int .i64 0),(.int .i64 0)]) 40 rfl Try.underlying34 info53 rfl (by decide) (by omega) u9 x9_2 (⟨a1_0,a1_1,a1_2,a1_3⟩ : S53) [.string a1_0,.int .i64 a1_1,.int .i64 a1_2,.int .i64 a1_3] (fun k_ => k_ ≠ gb101) (fun _ => False) rfl rfl ?aP (fun _ hk => hk.elim) ?aF ?aO ?aB ?aS ?aL ?_;(case aP => exact k53_mkM _ _ _ (⟨a1_0,a1_1,a1_2,a1_3⟩ : S53));(case aB => exact (by repeat (first | (with_reducible first | exact HB.out | apply qj | apply qz | apply qk | refine qx ?_ GE101.out) | exact HB.out)));(case aF => exact (fun k_ hk => Kd.freshB (g := gb101) (o := .cells #[.string a1_0,.int .i64 a1_1,.int .i64 a1_2,.int .i64 a1_3] 53 (0,0)) (by (with_reducible repeat (first | refine zz ?_ _ | refine zj ?_ | refine zq ?_ _));exact BK101.out) k_ hk));(case aO => exact (by (with_reducible repeat (first | apply Kd.jq | apply Kd.zx | apply Kd.jz));exact HO_9.out));(case aS => exact (zw (by repeat (first | (with_reducible first | exact HB.out | apply qj | apply qz | apply qk | refine qx ?_ GE101.out) | exact HB.out))));(case aL => have := LMc67.out;omega);intro v119 w71 ho hb hg hat;rw [← Ny118.out] at ho;have n0_ := qq.mk (blk_grown (g := gb101) (o := .cells #[.string a1_0,.int .i64 a1_1,.int .i64 a1_2,.int .i64 a1_3] 53 (0,0)) (by (with_reducible repeat (first | refine zz ?_ _ | refine zj ?_ | refine zq ?_ _));exact BK101.out) hg (Kd.R_away HO_9.out (fun _ hk => hk)));have n1_ := qq.mk (hb);have n2_ := qq.mk (ho);clear BK101;clear HB;clear HO_9;have BK101 := n0_;have HB := n1_;have HO120 := n2_;clear n0_ n1_ n2_;clear ho hb hg hat;obtain ⟨Ao72,co72,eo72⟩ := Kd.R_slice HO120.out;subst eo72) | ((with_reducible refine jv (f := 14) rfl ?_);refine goesL_ (some 83) rfl rfl Try.func14 (by kernel_rfl) rfl #[.slice Ao72 y118.length co72] rfl (by (try simp only [List.map_toArray,List.map_cons,List.map_nil]);first | done | rfl | (simp only [List.length_drop,List.length_take];rfl)) ?_;(with_reducible refine (xv.calls k2 _ _ y118 true _ ?side1 ?side2 A68.out).mono ?_);(case side1 => repeat (first | exact (Kd.R_reads' HO120.out).2.2 | (with_reducible refine Kd.C_alloc ?_ _) | (with_reducible refine Kd.C_drewN ?_ _) | (with_reducible refine Kd.C_drew ?_)));(case side2 => exact (Kd.R_reads' HO120.out).2.1);rintro e w73 ⟨rfl,hb⟩;refine ⟨_,rfl,?_⟩;have n0_ := qq.mk (Kd.R_below (by (with_reducible repeat (first | apply Kd.jq | apply Kd.zx | apply Kd.jz));exact HO120.out) hb);have n1_ := qq.mk (kj (g := gb101) (o := .cells #[.string a1_0,.int .i64 a1_1,.int .i64 a1_2,.int .i64 a1_3] 53 (0,0)) (by (with_reducible repeat (first | refine zz ?_ _ | refine zj ?_ | refine zq ?_ _));exact BK101.out) hb);have n2_ := qq.mk (zv (by repeat (first | (with_reducible first | exact HB.out | apply qj | apply qz | apply qk | refine qx ?_ GE101.out) | exact HB.out)) hb);clear HO120;clear BK101;clear HB;have HO120 := n0_;have BK101 := n1_;have HB := n2_;clear n0_ n1_ n2_;(try clear hb);(try clear hb2);(try clear hk);(try clear hi)))
          go_ret
          exact ⟨_,by first | rfl | (simp [*,jk,jj] <;> rfl),by (with_reducible repeat (first | apply Kd.jq | apply Kd.zx | apply Kd.jz));exact Kd.R_mono HO120.out (fun _ hk => trivial),by repeat (first | (with_reducible first | exact HB.out | apply qj | apply qz | apply qk | refine qx ?_ GE101.out) | exact HB.out)⟩
         ·replace c69 := Bool.eq_false_iff.mpr c69
          subst c69
          have H1 : (some ([] : List (S53))) = some r := by rw [if_neg (show ¬ (false = true) by decide)] at H;exact H
          clear H
          have H := H1
          clear H1
          obtain rfl := Option.some.inj H
          have hcz74_0 : wr.cell? ⟨gb101,0,none⟩ = some (.string a1_0) := (qw BK101.out 0).trans rfl
          have hcz74_1 : wr.cell? ⟨gb101,1,none⟩ = some (.int .i64 a1_1) := (qw BK101.out 1).trans rfl
          have hcz74_2 : wr.cell? ⟨gb101,2,none⟩ = some (.int .i64 a1_2) := (qw BK101.out 2).trans rfl
          have hcz74_3 : wr.cell? ⟨gb101,3,none⟩ = some (.int .i64 a1_3) := (qw BK101.out 3).trans rfl
          have hfz74_0 := qv BK101.out 0
          have hfz74_1 := qv BK101.out 1
          have hfz74_2 := qv BK101.out 2
          have hfz74_3 := qv BK101.out 3
          go_wp2_with (first | ((with_reducible refine gate_builtin (b := .append) (xs := #[.tmp 78,.tmp 80]) rfl ?_);at_builtin;refine Kd.R_append k53 (w0 := w) w.heap.size rfl (.tmp 78) (.tmp 80) 34 53 (.agg #[(.string ⟨#[]⟩),(.int .i64 0),(.int .i64 0),(.int .i64 0)]) 40 rfl Try.underlying34 info53 rfl (by decide) (by omega) u9 x9_2 (⟨a1_0,a1_1,a1_2,a1_3⟩ : S53) [.string a1_0,.int .i64 a1_1,.int .i64 a1_2,.int .i64 a1_3] (fun k_ => k_ ≠ gb101) (fun _ => False) rfl rfl ?aP (fun _ hk => hk.elim) ?aF ?aO ?aB ?aS ?aL ?_;(case aP => exact k53_mkM _ _ _ (⟨a1_0,a1_1,a1_2,a1_3⟩ : S53));(case aB => exact (by repeat (first | (with_reducible first | exact HB.out | apply qj | apply qz | apply qk | refine qx ?_ GE101.out) | exact HB.out)));(case aF => exact (fun k_ hk => Kd.freshB (g := gb101) (o := .cells #[.string a1_0,.int .i64 a1_1,.int .i64 a1_2,.int .i64 a1_3] 53 (0,0)) (by (with_reducible repeat (first | refine zz ?_ _ | refine zj ?_ | refine zq ?_ _));exact BK101.out) k_ hk));(case aO => exact (by (with_reducible repeat (first | apply Kd.jq | apply Kd.zx | apply Kd.jz));exact HO_9.out));(case aS => exact (zw (by repeat (first | (with_reducible first | exact HB.out | apply qj | apply qz | apply qk | refine qx ?_ GE101.out) | exact HB.out))));(case aL => have := LMc67.out;omega);intro v119 w75 ho hb hg hat;rw [← Ny118.out] at ho;have n0_ := qq.mk (blk_grown (g := gb101) (o := .cells #[.string a1_0,.int .i64 a1_1,.int .i64 a1_2,.int .i64 a1_3] 53 (0,0)) (by (with_reducible repeat (first | refine zz ?_ _ | refine zj ?_ | refine zq ?_ _));exact BK101.out) hg (Kd.R_away HO_9.out (fun _ hk => hk)));have n1_ := qq.mk (hb);have n2_ := qq.mk (ho);clear BK101;clear HB;clear HO_9;have BK101 := n0_;have HB := n1_;have HO120 := n2_;clear n0_ n1_ n2_;clear ho hb hg hat;obtain ⟨Ao76,co76,eo76⟩ := Kd.R_slice HO120.out;subst eo76) | ((with_reducible refine jv (f := 14) rfl ?_);refine goesL_ (some 83) rfl rfl Try.func14 (by kernel_rfl) rfl #[.slice Ao76 y118.length co76] rfl (by (try simp only [List.map_toArray,List.map_cons,List.map_nil]);first | done | rfl | (simp only [List.length_drop,List.length_take];rfl)) ?_;(with_reducible refine (xv.calls k2 _ _ y118 false _ ?side1 ?side2 A68.out).mono ?_);(case side1 => repeat (first | exact (Kd.R_reads' HO120.out).2.2 | (with_reducible refine Kd.C_alloc ?_ _) | (with_reducible refine Kd.C_drewN ?_ _) | (with_reducible refine Kd.C_drew ?_)));(case side2 => exact (Kd.R_reads' HO120.out).2.1);rintro e w77 ⟨rfl,hb⟩;refine ⟨_,rfl,?_⟩;have n0_ := qq.mk (Kd.R_below (by (with_reducible repeat (first | apply Kd.jq | apply Kd.zx | apply Kd.jz));exact HO120.out) hb);have n1_ := qq.mk (kj (g := gb101) (o := .cells #[.string a1_0,.int .i64 a1_1,.int .i64 a1_2,.int .i64 a1_3] 53 (0,0)) (by (with_reducible repeat (first | refine zz ?_ _ | refine zj ?_ | refine zq ?_ _));exact BK101.out) hb);have n2_ := qq.mk (zv (by repeat (first | (with_reducible first | exact HB.out | apply qj | apply qz | apply qk | refine qx ?_ GE101.out) | exact HB.out)) hb);clear HO120;clear BK101;clear HB;have HO120 := n0_;have BK101 := n1_;have HB := n2_;clear n0_ n1_ n2_;(try clear hb);(try clear hb2);(try clear hk);(try clear hi)))
          go_ret
          exact ⟨_,by first | rfl | (simp [*,jk,jj] <;> rfl),by first | exact Kd.R_nil _ _ _ _ _ | exact Kd.N_nil _ _ _ _ _ | exact Kd.V_nil _ _ _ _ _ | exact Kd.Q_nil _ _ _ _ _ | exact Kd.S_nil _ _ _ _ _,by repeat (first | (with_reducible first | exact HB.out | apply qj | apply qz | apply qk | refine qx ?_ GE101.out) | exact HB.out)⟩
        ·rw [if_neg c67] at H
         exact absurd H (by simp)
end Go.Proofs.Ytakocdkcfjkmdaa.Pr
namespace Go.Proofs.Ytakocdkcfjkmdaa.Pr
open Go.RowKit Go.Proofs.YtakocdkcfjkmdaaW.PrintWords Go.Proofs.YtakocdkcfjkmdaaW.PrintLast Go.Proofs.YtakocdkcfjkmdaaW.PrintMore
open Go.Sort (HoldsK flatK size_flatK get_flatK putRowK)
set_option linter.unusedVariables false
set_option linter.unusedSimpArgs false
abbrev KeyT := S53
instance : Inhabited KeyT := ⟨z53⟩
def encKey (x : KeyT) : List Value := [.string x.f0,.int .i64 x.f1,.int .i64 x.f2,.int .i64 x.f3]
theorem encKey_len (x : KeyT) : (encKey x).length = 4 := rfl
theorem encKey_one (x : KeyT) : ∀ v ∈ encKey x,v.oneCell' = true := by
 intro v hv
 simp only [encKey,List.mem_cons,List.not_mem_nil,or_false] at hv
 rcases hv with rfl | rfl | rfl | rfl <;> rfl
theorem key_open {w : World} {base : Nat} {ok : Nat → Prop} {v : Value} {l : List KeyT} (h : Kd.R k53 53 w base ok v l) (hl : l ≠ []) :
  ∃ g cap cur,v = .slice (some ⟨g,0,none⟩) l.length cap ∧ base ≤ g ∧ ok g ∧ w.heap[g]? = some (.cells cur 53 (0,0)) ∧ l.length ≤ cap ∧ cap ≤ maxLen ∧ cur.size = cap * 4 ∧ ∀ i,i < l.length → ∀ c,c < 4 → cur[i * 4 + c]? = (encKey l[i]!)[c]? := by
 obtain ⟨h0,inner,⟨hlen,ho⟩,hr⟩ := h
 rcases ho with ⟨_,hn⟩ | ⟨g,cap,cur,rfl,hg,hh,h1,h2,h3,h4⟩
 ·exact absurd (List.eq_nil_of_length_eq_zero hn) hl
 refine ⟨g,cap,cur,rfl,hg,h0 g rfl,hh,h1,h2,h3,fun i hi c hc => ?_⟩
 have hk : (inner.drop (i * 4)).take 4 = encKey l[i] := k53_openM (hr.2 i l[i] (List.getElem?_eq_getElem hi))
 have e : inner[i * 4 + c]? = (encKey l[i])[c]? := by
  rw [← hk,List.getElem?_take,if_pos hc,List.getElem?_drop]
 have h5 : cur.toList.take (l.length * 4) = inner := h4
 rw [getElem!_pos l i hi,← e,← h5,List.getElem?_take,if_pos (by omega),Array.getElem?_toList]
theorem key_holds {w : World} {g : Nat} {cur : Array Value} {l : List KeyT} (hh : w.heap[g]? = some (.cells cur 53 (0,0))) (hc : ∀ i,i < l.length → ∀ c,c < 4 → cur[i * 4 + c]? = (encKey l[i]!)[c]?) : HoldsK encKey 4 w g 0 l.toArray := by
 intro t ht
 have ht4 : t < l.toArray.size * 4 := by rw [size_flatK] at ht;exact ht
 have ht' : t < l.length * 4 := by simpa using ht4
 refine ⟨?_,qv hh (0 + t)⟩
 rw [qw hh (0 + t),Nat.zero_add,get_flatK _ _ _ t ht4]
 have h1 := hc (t / 4) (by omega) (t % 4) (by omega)
 rw [show t / 4 * 4 + t % 4 = t by omega] at h1
 rw [h1]
 have h2 : (l.toArray)[t / 4]! = l[t / 4]! := by simp
 rw [h2]
 have h3 : t % 4 < (encKey l[t / 4]!).length := by rw [encKey_len];omega
 rw [List.getElem?_eq_getElem h3,getElem!_pos (encKey l[t / 4]!) (t % 4) h3]
 rfl
theorem key_laid {w : World} {g : Nat} {cur : Array Value} {l : List KeyT} (hh : w.heap[g]? = some (.cells cur 53 (0,0))) (n : Nat) (os : Array Obj) :
  (sortWorldK encKey 4 w g 0 n l.toArray os).heap[g]? = some (.cells (Sort.putCells id 0 (flatK encKey 4 l.toArray) cur) 53 (0,0)) := by
 have hg : g < w.heap.size := (Array.getElem?_eq_some_iff.1 hh).1
 unfold sortWorldK putRowK Sort.putRow Sort.mapBlock
 show ((w.heap.modify g _) ++ os)[g]? = _
 rw [Array.getElem?_append_left (by simpa using hg),Array.getElem?_modify,if_pos rfl,hh]
 rfl
theorem key_else {w : World} {g : Nat} {l : List KeyT} (n : Nat) (os : Array Obj) (i : Nat) (hi : i < w.heap.size) (hne : i ≠ g) :
  (sortWorldK encKey 4 w g 0 n l.toArray os).heap[i]? = w.heap[i]? := by
 unfold sortWorldK putRowK Sort.putRow Sort.mapBlock
 show ((w.heap.modify g _) ++ os)[i]? = _
 rw [Array.getElem?_append_left (by simpa using hi),Array.getElem?_modify,if_neg (fun e => hne e.symm)]
theorem key_size {w : World} {g : Nat} {l : List KeyT} (n : Nat) (os : Array Obj) : w.heap.size ≤ (sortWorldK encKey 4 w g 0 n l.toArray os).heap.size := size_sortWorldK_c _ _ _ _ _ _ _ _
theorem key_back {w : World} {base : Nat} {ok : Nat → Prop} {g cap : Nat} {cur : Array Value} {l : List KeyT} (hg : base ≤ g) (hok : ok g) (hh : w.heap[g]? = some (.cells cur 53 (0,0))) (h1 : l.length ≤ cap) (h2 : cap ≤ maxLen) (h3 : cur.size = cap * 4) (n : Nat) (os : Array Obj) :
  Kd.R k53 53 (sortWorldK encKey 4 w g 0 n l.toArray os) base ok (.slice (some ⟨g,0,none⟩) l.length cap) l := by
 have hs : (Sort.putCells id 0 (flatK encKey 4 l.toArray) cur).size = cap * 4 := by unfold Sort.putCells;rw [Array.size_mapIdx];exact h3
 have hcell : ∀ t,t < l.length * 4 → (Sort.putCells id 0 (flatK encKey 4 l.toArray) cur)[t]? = (encKey l[t / 4]!)[t % 4]? := by
  intro t ht
  have ht4 : t < l.toArray.size * 4 := by simpa using ht
  have htc : t < cur.size := by rw [h3];omega
  unfold Sort.putCells
  rw [Array.getElem?_mapIdx,Array.getElem?_eq_getElem htc]
  simp only [Option.map_some]
  rw [if_pos (show 0 ≤ t ∧ t < 0 + (flatK encKey 4 l.toArray).size by rw [size_flatK];omega),Nat.sub_zero,get_flatK _ _ _ t ht4]
  have e2 : (l.toArray)[t / 4]! = l[t / 4]! := by simp
  rw [e2]
  have e3 : t % 4 < (encKey l[t / 4]!).length := by rw [encKey_len];omega
  rw [List.getElem?_eq_getElem e3,getElem!_pos (encKey l[t / 4]!) (t % 4) e3]
  rfl
 have hlen : ((Sort.putCells id 0 (flatK encKey 4 l.toArray) cur).toList.take (l.length * 4)).length = l.length * 4 := by
  have hz : (Sort.putCells id 0 (flatK encKey 4 l.toArray) cur).toList.length = cap * 4 := by rw [Array.length_toList];exact hs
  rw [List.length_take,hz]
  exact Nat.min_eq_left (by omega)
 refine ⟨fun k hk => ?_,(Sort.putCells id 0 (flatK encKey 4 l.toArray) cur).toList.take (l.length * 4),⟨?_,.inr ⟨g,cap,_,rfl,hg,key_laid hh n os,h1,h2,hs,rfl⟩⟩,?_,fun j p hp => ?_⟩
 ·have : g = k := by simpa [Value.ownBlock] using hk
  subst this
  exact hok
 ·exact hlen
 ·exact hlen
 ·have hj : j < l.length := (List.getElem?_eq_some_iff.1 hp).1
  have hpe : l[j]! = p := by rw [getElem!_pos l j hj];exact (List.getElem?_eq_some_iff.1 hp).2
  have e : (((Sort.putCells id 0 (flatK encKey 4 l.toArray) cur).toList.take (l.length * 4)).drop (j * 4)).take 4 = encKey p := by
   apply List.ext_getElem?
   intro c
   by_cases hc : c < 4
   ·rw [List.getElem?_take,if_pos hc,List.getElem?_drop,List.getElem?_take,if_pos (by omega),Array.getElem?_toList,hcell _ (by omega),show (j * 4 + c) / 4 = j by omega,show (j * 4 + c) % 4 = c by omega,hpe]
   ·rw [List.getElem?_take,if_neg hc]
    exact (List.getElem?_eq_none (by rw [encKey_len];omega)).symm
  show k53.M _ _ _ p ((((Sort.putCells id 0 (flatK encKey 4 l.toArray) cur).toList.take (l.length * 4)).drop (j * 4)).take 4)
  rw [e]
  exact k53_mkM _ _ _ p
end Go.Proofs.Ytakocdkcfjkmdaa.Pr
namespace Go.Proofs.Ytakocdkcfjkmdaa.Pr
open Go.RowKit Go.Proofs.YtakocdkcfjkmdaaW.PrintWords Go.Proofs.YtakocdkcfjkmdaaW.PrintLast Go.Proofs.YtakocdkcfjkmdaaW.PrintMore
attribute [local go_sem] max2_int min2_int max_two min_two max_three min_three max_four min_four
set_option linter.unusedVariables false
set_option linter.unusedSimpArgs false
def cmp_isNaN_string.f (a0 : ByteArray) : Option (Bool) := some (a0.toList != a0.toList)
set_option maxHeartbeats 8000000 in
set_option maxRecDepth 100000 in
theorem cmp_isNaN_string.calls (a0 : ByteArray) (r : Bool) (w : World) (h : cmp_isNaN_string.f a0 = some r) :
  Calls Try.prog 82 #[.string a0] w fun e w' => e = .returned (.bool r) ∧ Drawn0 w w' := by
 have H : (some (a0.toList != a0.toList)) = some r := h
 clear h
 obtain rfl := Option.some.inj H
 go_enter Try.func82,Try.ntmps82
 go_wp2
 go_ret
 exact ⟨by first | rfl | (simp;done) | (simp [*];done),by repeat (first | exact Drawn0.refl _ | apply Drawn0.step)⟩
end Go.Proofs.Ytakocdkcfjkmdaa.Pr
namespace Go.Proofs.Ytakocdkcfjkmdaa.Pr
open Go.RowKit Go.Proofs.YtakocdkcfjkmdaaW.PrintWords Go.Proofs.YtakocdkcfjkmdaaW.PrintLast Go.Proofs.YtakocdkcfjkmdaaW.PrintMore
open Go.Sort (HoldsK flatK size_flatK get_flatK putRowK grow alloc_eq_grow grow_grow)
set_option linter.unusedVariables false
set_option linter.unusedSimpArgs false
def srtF (x : Nat) : Nat := if x = 20 then 100 else x
def srtT (x : Nat) : Nat := if x = 24 then 53 else if x = 22 then 34 else if x = 3 then 3 else if x = 25 then 86 else if x = 4 then 4 else if x = 0 then 0 else x
def srtG (x : Nat) : Nat :=  x
def srtRen : Go.Shelf.Ren := ⟨srtF,srtT,srtG⟩
theorem srtLays : SlLaysF0.n20 Try.prog srtRen where
 mixed := by kernel_rfl
 f20 := Exists.intro "slices.insertionSortCmpFunc[loop.example/g00036/impl.Key]" ⟨by decide, Try.func100.trans (congrArg some (by kernel_rfl))⟩
 t0 := Try.underlying0
 a0 := Try.isAgg0
 z0 := Try.sizeOf0
 v0 := Try.zeroValue0
 t3 := Try.underlying3
 a3 := Try.isAgg3
 z3 := Try.sizeOf3
 v3 := Try.zeroValue3
 t4 := Try.underlying4
 a4 := Try.isAgg4
 z4 := Try.sizeOf4
 v4 := Try.zeroValue4
 t22 := Try.underlying34
 a22 := Try.isAgg34
 z22 := Try.sizeOf34
 v22 := Try.zeroValue34
 t25 := Try.underlying86
 a25 := Try.isAgg86
 z25 := Try.sizeOf86
 v25 := Try.zeroValue86
def cfStr (a b : ByteArray) : Int := if Op.bytesLess a.toList b.toList = true then -1 else if (!(Op.bytesLess a.toList b.toList || a.toList == b.toList)) = true then 1 else 0
def cfKey (x y : KeyT) : Int := cfStr x.f0 y.f0
set_option maxHeartbeats 1000000 in
theorem cmpStr_calls (a b : ByteArray) (W : World) : Calls Try.prog 57 #[.string a,.string b] W fun e w' => e = .returned (.int .i64 (cfStr a b)) ∧ Drawn0 W w' := by
 have hN := fun (s : ByteArray) (W' : World) => cmp_isNaN_string.calls s false W' (by unfold cmp_isNaN_string.f;rw [bne_self_eq_false])
 by_cases hl : Op.bytesLess a.toList b.toList = true
 ·rw [show cfStr a b = -1 from by unfold cfStr;rw [if_pos hl]]
  go_enter Try.func57,Try.ntmps57
  go_wp2_with (go_at_call 82;refine (hN _ _).mono ?_;rintro e w' ⟨rfl,nd,rfl⟩)
  go_ret
  exact ⟨rfl,by repeat (first | exact Drawn0.refl _ | apply Drawn0.step)⟩
 have hl0 : Op.bytesLess a.toList b.toList = false := Bool.eq_false_iff.2 hl
 by_cases he : (a.toList == b.toList) = true
 ·rw [show cfStr a b = 0 from by unfold cfStr;rw [if_neg hl,hl0,he];rfl]
  go_enter Try.func57,Try.ntmps57
  go_wp2_with (go_at_call 82;refine (hN _ _).mono ?_;rintro e w' ⟨rfl,nd,rfl⟩)
  go_ret
  exact ⟨rfl,by repeat (first | exact Drawn0.refl _ | apply Drawn0.step)⟩
 ·have he0 : (a.toList == b.toList) = false := Bool.eq_false_iff.2 he
  rw [show cfStr a b = 1 from by unfold cfStr;rw [if_neg hl,hl0,he0];rfl]
  go_enter Try.func57,Try.ntmps57
  go_wp2_with (go_at_call 82;refine (hN _ _).mono ?_;rintro e w' ⟨rfl,nd,rfl⟩)
  go_ret
  exact ⟨rfl,by repeat (first | exact Drawn0.refl _ | apply Drawn0.step)⟩
set_option maxHeartbeats 1000000 in
theorem keyLess_calls (x y : KeyT) (W : World) : Calls Try.prog 56 #[.agg #[.string x.f0,.int .i64 x.f1,.int .i64 x.f2,.int .i64 x.f3],.agg #[.string y.f0,.int .i64 y.f1,.int .i64 y.f2,.int .i64 y.f3]] W fun e w' => e = .returned (.int .i64 (cfKey x y)) ∧ ∃ q os',w' = grow (W.drewN q) os' := by
 have hcon := fun W' => cmpStr_calls x.f0 y.f0 W'
 unfold cfKey
 generalize cfStr x.f0 y.f0 = r at hcon ⊢
 go_enter Try.func56,Try.ntmps56
 go_wp2_with (go_at_call 57;refine (hcon _).mono ?_;rintro e w' ⟨rfl,nd,rfl⟩)
 go_ret
 exact ⟨rfl,nd,_,by rw [alloc_eq_grow,alloc_eq_grow,grow_grow];rfl⟩
theorem keyLays (blk off size : Nat) (w : World) : CmpLays Try.prog 56 #[] encKey 4 cfKey blk off size w := fun _ _ _ _ x y => keyLess_calls x y _
theorem keyInsert_calls (g cap : Nat) (d : Array KeyT) (w : World) (hH : HoldsK encKey 4 w g 0 d) (hg : g < w.heap.size) (hs : d.size < 20) :
  Calls Try.prog 100 #[.slice (some ⟨g,0,none⟩) d.size cap,.int .i64 0,.int .i64 d.size,.func (.func 56) #[] #[]] w fun e w' =>
   e = .returned (.tuple #[]) ∧ ∃ n os,w' = sortWorldK encKey 4 w g 0 n (Sort.insertionSort (ltOf cfKey) d 0 d.size) os :=
 AnyQ.insertionSortCmpFunc srtLays 4 Try.isAgg53 Try.sizeOf53 encKey encKey_len encKey_one cfKey 56 #[] g 0 cap 0 d.size d w (enters_of Try.func56 (by kernel_rfl) rfl) (keyLays _ _ _ _) hH hg (Nat.zero_le _) (Nat.le_refl _) (by omega)
set_option maxHeartbeats 1000000 in
theorem keyStable_calls (g cap : Nat) (d : Array KeyT) (w : World) (hH : HoldsK encKey 4 w g 0 d) (hg : g < w.heap.size) (hs : d.size < 20) :
  Calls Try.prog 81 #[.slice (some ⟨g,0,none⟩) d.size cap,.int .i64 d.size,.func (.func 56) #[] #[]] w fun e w' =>
   e = .returned (.tuple #[]) ∧ ∃ n os,w' = sortWorldK encKey 4 w g 0 n (Sort.insertionSort (ltOf cfKey) d 0 d.size) os := by
 have hcon := qq.mk (keyInsert_calls g cap d w hH hg hs)
 clear hH hg
 have hlt : (20 : Int) ≤ (d.size : Int) ↔ False := ⟨fun h => by omega,False.elim⟩
 have hlt2 : decide ((20 : Int) ≤ (d.size : Int)) = false := decide_eq_false (by omega)
 have hlt3 : decide ((20 : Int) < (d.size : Int)) = false := decide_eq_false (by omega)
 generalize Sort.insertionSort (ltOf cfKey) d 0 d.size = r at hcon ⊢
 go_enter Try.func81,Try.ntmps81
 go_wp2
 go_loopw [7,8] (fun v7 v8 W => v7 = .int .i64 0 ∧ v8 = .int .i64 20 ∧ qq (W = w)) (fun _ _ _ => 0)
 case atStart => exact ⟨rfl,rfl,⟨rfl⟩⟩
 case round =>
  obtain ⟨rfl,rfl,HW⟩ := hrel
  obtain rfl := HW.out
  clear HW
  go_wp2_with (go_at_call 100;refine hcon.out.mono ?_;rintro e w' ⟨rfl,n,os,rfl⟩)
  generalize hW : sortWorldK encKey 4 wr g 0 n r os = w2
  have HW := qq.mk hW
  clear hW
  go_loopw [6] (fun v6 W => v6 = .int .i64 20 ∧ qq (W = w2)) (fun _ _ => 0)
  case atStart => exact ⟨rfl,⟨rfl⟩⟩
  case round =>
   obtain ⟨rfl,HW2⟩ := hrel
   obtain rfl := HW2.out
   clear HW2
   go_wp2
   go_end0
   exact ⟨rfl,n,os,HW.out.symm⟩
set_option maxHeartbeats 1000000 in
theorem keySort_calls (g cap : Nat) (d : Array KeyT) (w : World) (hH : HoldsK encKey 4 w g 0 d) (hg : g < w.heap.size) (hs : d.size < 20) :
  Calls Try.prog 55 #[.slice (some ⟨g,0,none⟩) d.size cap,.func (.func 56) #[] #[]] w fun e w' =>
   e = .returned (.tuple #[]) ∧ ∃ n os,w' = sortWorldK encKey 4 w g 0 n (Sort.insertionSort (ltOf cfKey) d 0 d.size) os := by
 have hcon := qq.mk (keyStable_calls g cap d w hH hg hs)
 clear hH hg
 generalize Sort.insertionSort (ltOf cfKey) d 0 d.size = r at hcon ⊢
 go_enter Try.func55,Try.ntmps55
 go_wp2_with (go_at_call 81;refine hcon.out.mono ?_;rintro e w' ⟨rfl,n,os,rfl⟩)
 go_end0
 exact ⟨rfl,n,os,rfl⟩
def sort_impl_RotateRing_1.f (k : Nat) (l : List KeyT) : Option (List KeyT) := if l = [] then none else if l.length < 20 then some (Sort.insertionSort (ltOf cfKey) l.toArray 0 l.length).toList else none
theorem sort_impl_RotateRing_1.mono (l : List KeyT) (k : Nat) : LeO (sort_impl_RotateRing_1.f k l) (sort_impl_RotateRing_1.f (k + 1) l) := LeO.refl _
theorem insInner_len (lt : KeyT → KeyT → Bool) (a : Nat) : ∀ (j : Nat) (d : Array KeyT),(Sort.insInner lt a j d).size = d.size
 | 0,d => rfl
 | j + 1,d => by
  unfold Sort.insInner
  split
  ·rw [insInner_len lt a j,Go.Sort.size_swp]
  ·rfl
theorem insOuter_len (lt : KeyT → KeyT → Bool) (a b : Nat) : ∀ (n i : Nat) (d : Array KeyT),b - i = n → (Sort.insOuter lt a b i d).size = d.size
 | 0,i,d,h => by
  unfold Sort.insOuter
  rw [if_neg (by omega)]
 | n + 1,i,d,h => by
  unfold Sort.insOuter
  rw [if_pos (by omega),insOuter_len lt a b n (i + 1) _ (by omega),insInner_len]
theorem sort_size (d : Array KeyT) : (Sort.insertionSort (ltOf cfKey) d 0 d.size).size = d.size := insOuter_len _ _ _ _ _ _ rfl
theorem sort_impl_RotateRing_1.calls (k : Nat) (P0_ : Nat → Prop) (u9000_ : Value) (l0 : List KeyT) (r1 : List KeyT) (w0 w : World) (hB : Below w0.heap.size w0 w) (ho0 : Kd.R k53 53 w w0.heap.size P0_ u9000_ l0) (h : sort_impl_RotateRing_1.f k l0 = some r1) :
  Calls Try.prog 55 #[u9000_,.func (.func 56) #[] #[]] w fun e w' => e = .returned (.tuple #[]) ∧ Kd.R k53 53 w' w0.heap.size (fun k_ => (P0_ k_ ∨ w.heap.size ≤ k_)) u9000_ r1 ∧ Below w0.heap.size w0 w' ∧ kz w w' (fun k_ => P0_ k_) := by
 unfold sort_impl_RotateRing_1.f at h
 by_cases hl : l0 = []
 ·rw [if_pos hl] at h;cases h
 rw [if_neg hl] at h
 by_cases hs : l0.length < 20
 case neg => rw [if_neg hs] at h;cases h
 rw [if_pos hs] at h
 obtain rfl := Option.some.inj h
 obtain ⟨g,cap,cur,rfl,hg,hok,hh,h1,h2,h3,h4⟩ := key_open ho0 hl
 have hgl : g < w.heap.size := (Array.getElem?_eq_some_iff.1 hh).1
 refine (keySort_calls g cap l0.toArray w (key_holds hh h4) hgl hs).mono ?_
 rintro e w' ⟨rfl,n,os,rfl⟩
 have hsz : (Sort.insertionSort (ltOf cfKey) l0.toArray 0 l0.length).toList.length = l0.length := by
  rw [Array.length_toList];exact sort_size l0.toArray
 have hto : Sort.insertionSort (ltOf cfKey) l0.toArray 0 l0.toArray.size = (Sort.insertionSort (ltOf cfKey) l0.toArray 0 l0.length).toList.toArray := rfl
 rw [hto]
 generalize (Sort.insertionSort (ltOf cfKey) l0.toArray 0 l0.length).toList = r at hsz
 refine ⟨rfl,?_,?_,key_size _ _,fun i hi hn => key_else _ _ i hi (fun e => hn (e ▸ hok))⟩
 ·have := key_back (l := r) (base := w0.heap.size) (ok := fun k_ => (P0_ k_ ∨ w.heap.size ≤ k_)) hg (.inl hok) hh (by omega) h2 h3 n os
  rw [hsz] at this
  exact this
 ·exact hB.trans ⟨rfl,rfl,rfl,key_size _ _,fun i hi => key_else _ _ i (Nat.lt_of_lt_of_le hi hB.size) (by omega)⟩
end Go.Proofs.Ytakocdkcfjkmdaa.Pr
namespace Go.Proofs.Ytakocdkcfjkmdaa.Pr
open Go.RowKit Go.Proofs.YtakocdkcfjkmdaaW.PrintWords Go.Proofs.YtakocdkcfjkmdaaW.PrintLast Go.Proofs.YtakocdkcfjkmdaaW.PrintMore
attribute [local go_sem] max2_int min2_int max_two min_two max_three min_three max_four min_four
set_option linter.unusedVariables false
set_option linter.unusedSimpArgs false
def vw.f (a0 : Int) : Option (Bool) := if a0 ≥ 97 then (if a0 ≤ 122 then (some true) else (if a0 ≥ 65 then (some (decide (a0 ≤ 90))) else (some false))) else (if a0 ≥ 65 then (some (decide (a0 ≤ 90))) else (some false))
set_option maxHeartbeats 8000000 in
set_option maxRecDepth 100000 in
theorem vw.calls (a0 : Int) (r : Bool) (w : World) (h : vw.f a0 = some r) :
  Calls Try.prog 90 #[.int .u8 a0] w fun e w' => e = .returned (.bool r) ∧ Drawn0 w w' := by
 have H : (if a0 ≥ 97 then (if a0 ≤ 122 then (some true) else (if a0 ≥ 65 then (some (decide (a0 ≤ 90))) else (some false))) else (if a0 ≥ 65 then (some (decide (a0 ≤ 90))) else (some false))) = some r := h
 clear h
 by_cases c2 : a0 ≥ 97
 ·rw [if_pos c2] at H
  have c2b0 : decide (97 ≤ a0) = true := decide_eq_true c2
  clear c2
  by_cases c3 : a0 ≤ 122
  ·rw [if_pos c3] at H
   have c3b0 : decide (a0 ≤ 122) = true := decide_eq_true c3
   clear c3
   obtain rfl := Option.some.inj H
   go_enter Try.func90,Try.ntmps90
   go_wp2
   go_ret
   exact ⟨by first | rfl | (simp;done) | (simp [*];done),by repeat (first | exact Drawn0.refl _ | apply Drawn0.step)⟩
  ·rw [if_neg c3] at H
   have c3b0 : decide (a0 ≤ 122) = false := decide_eq_false c3
   clear c3
   by_cases c4 : a0 ≥ 65
   ·rw [if_pos c4] at H
    have c4b0 : decide (65 ≤ a0) = true := decide_eq_true c4
    clear c4
    obtain rfl := Option.some.inj H
    go_enter Try.func90,Try.ntmps90
    go_wp2
    go_ret
    exact ⟨by first | rfl | (simp;done) | (simp [*];done),by repeat (first | exact Drawn0.refl _ | apply Drawn0.step)⟩
   ·rw [if_neg c4] at H
    have c4b0 : decide (65 ≤ a0) = false := decide_eq_false c4
    clear c4
    obtain rfl := Option.some.inj H
    go_enter Try.func90,Try.ntmps90
    go_wp2
    go_ret
    exact ⟨by first | rfl | (simp;done) | (simp [*];done),by repeat (first | exact Drawn0.refl _ | apply Drawn0.step)⟩
 ·rw [if_neg c2] at H
  have c2b0 : decide (97 ≤ a0) = false := decide_eq_false c2
  clear c2
  by_cases c5 : a0 ≥ 65
  ·rw [if_pos c5] at H
   have c5b0 : decide (65 ≤ a0) = true := decide_eq_true c5
   clear c5
   obtain rfl := Option.some.inj H
   go_enter Try.func90,Try.ntmps90
   go_wp2
   go_ret
   exact ⟨by first | rfl | (simp;done) | (simp [*];done),by repeat (first | exact Drawn0.refl _ | apply Drawn0.step)⟩
  ·rw [if_neg c5] at H
   have c5b0 : decide (65 ≤ a0) = false := decide_eq_false c5
   clear c5
   obtain rfl := Option.some.inj H
   go_enter Try.func90,Try.ntmps90
   go_wp2
   go_ret
   exact ⟨by first | rfl | (simp;done) | (simp [*];done),by repeat (first | exact Drawn0.refl _ | apply Drawn0.step)⟩
end Go.Proofs.Ytakocdkcfjkmdaa.Pr
namespace Go.Proofs.Ytakocdkcfjkmdaa.Pr
open Go.RowKit Go.Proofs.YtakocdkcfjkmdaaW.PrintWords Go.Proofs.YtakocdkcfjkmdaaW.PrintLast Go.Proofs.YtakocdkcfjkmdaaW.PrintMore
attribute [local go_sem] max2_int min2_int max_two min_two max_three min_three max_four min_four
set_option linter.unusedVariables false
set_option linter.unusedSimpArgs false
def vz.f (a0 : Int) : Option (Bool) := if a0 ≥ 48 then (some (decide (a0 ≤ 57))) else (some false)
set_option maxHeartbeats 8000000 in
set_option maxRecDepth 100000 in
theorem vz.calls (a0 : Int) (r : Bool) (w : World) (h : vz.f a0 = some r) :
  Calls Try.prog 91 #[.int .u8 a0] w fun e w' => e = .returned (.bool r) ∧ Drawn0 w w' := by
 have H : (if a0 ≥ 48 then (some (decide (a0 ≤ 57))) else (some false)) = some r := h
 clear h
 by_cases c2 : a0 ≥ 48
 ·rw [if_pos c2] at H
  have c2b0 : decide (48 ≤ a0) = true := decide_eq_true c2
  clear c2
  obtain rfl := Option.some.inj H
  go_enter Try.func91,Try.ntmps91
  go_wp2
  go_ret
  exact ⟨by first | rfl | (simp;done) | (simp [*];done),by repeat (first | exact Drawn0.refl _ | apply Drawn0.step)⟩
 ·rw [if_neg c2] at H
  have c2b0 : decide (48 ≤ a0) = false := decide_eq_false c2
  clear c2
  obtain rfl := Option.some.inj H
  go_enter Try.func91,Try.ntmps91
  go_wp2
  go_ret
  exact ⟨by first | rfl | (simp;done) | (simp [*];done),by repeat (first | exact Drawn0.refl _ | apply Drawn0.step)⟩
end Go.Proofs.Ytakocdkcfjkmdaa.Pr
namespace Go.Proofs.Ytakocdkcfjkmdaa.Pr
open Go.RowKit Go.Proofs.YtakocdkcfjkmdaaW.PrintWords Go.Proofs.YtakocdkcfjkmdaaW.PrintLast Go.Proofs.YtakocdkcfjkmdaaW.PrintMore
attribute [local go_sem] max2_int min2_int max_two min_two max_three min_three max_four min_four
set_option linter.unusedVariables false
set_option linter.unusedSimpArgs false
def wq.f (a0 : Int) : Option (Bool) := (vw.f a0).bind fun t101 => (if t101 = true then (some true) else ((vz.f a0).bind fun t102 => (if t102 = true then (some true) else (some (a0 == 95)))))
set_option maxHeartbeats 8000000 in
set_option maxRecDepth 100000 in
theorem wq.calls (a0 : Int) (r : Bool) (w : World) (h : wq.f a0 = some r) :
  Calls Try.prog 70 #[.int .u8 a0] w fun e w' => e = .returned (.bool r) ∧ Drawn0 w w' := by
 have H : ((vw.f a0).bind fun t101 => (if t101 = true then (some true) else ((vz.f a0).bind fun t102 => (if t102 = true then (some true) else (some (a0 == 95)))))) = some r := h
 clear h
 replace H := Option.bind_eq_some_iff.mp H
 obtain ⟨t101,A20,H⟩ := H
 replace H : (if t101 = true then (some true) else ((vz.f a0).bind fun t102 => (if t102 = true then (some true) else (some (a0 == 95))))) = some r := H
 have A2 := qq.mk A20
 clear A20
 by_cases c3 : t101 = true
 ·subst c3
  have H1 : (some true) = some r := by rw [if_pos rfl] at H;exact H
  clear H
  have H := H1
  clear H1
  obtain rfl := Option.some.inj H
  go_enter Try.func70,Try.ntmps70
  go_wp2_with (first | ((with_reducible refine jv (f := 90) rfl ?_);refine goesL_ (some 4) rfl rfl Try.func90 (by kernel_rfl) rfl #[.int .u8 a0] rfl (by (try simp only [List.map_toArray,List.map_cons,List.map_nil]);first | done | rfl | (simp only [List.length_drop,List.length_take];rfl)) ?_;(with_reducible refine (vw.calls a0 true _ A2.out).mono ?_);rintro e w' ⟨rfl,⟨nd,rfl⟩⟩;refine ⟨_,rfl,?_⟩))
  go_ret
  exact ⟨by first | rfl | (simp;done) | (simp [*];done),by repeat (first | exact Drawn0.refl _ | apply Drawn0.step)⟩
 ·replace c3 := Bool.eq_false_iff.mpr c3
  subst c3
  have H1 : ((vz.f a0).bind fun t102 => (if t102 = true then (some true) else (some (a0 == 95)))) = some r := by rw [if_neg (show ¬ (false = true) by decide)] at H;exact H
  clear H
  have H := H1
  clear H1
  replace H := Option.bind_eq_some_iff.mp H
  obtain ⟨t102,A40,H⟩ := H
  replace H : (if t102 = true then (some true) else (some (a0 == 95))) = some r := H
  have A4 := qq.mk A40
  clear A40
  by_cases c5 : t102 = true
  ·subst c5
   have H1 : (some true) = some r := by rw [if_pos rfl] at H;exact H
   clear H
   have H := H1
   clear H1
   obtain rfl := Option.some.inj H
   go_enter Try.func70,Try.ntmps70
   go_wp2_with (first | ((with_reducible refine jv (f := 90) rfl ?_);refine goesL_ (some 4) rfl rfl Try.func90 (by kernel_rfl) rfl #[.int .u8 a0] rfl (by (try simp only [List.map_toArray,List.map_cons,List.map_nil]);first | done | rfl | (simp only [List.length_drop,List.length_take];rfl)) ?_;(with_reducible refine (vw.calls a0 false _ A2.out).mono ?_);rintro e w' ⟨rfl,⟨nd,rfl⟩⟩;refine ⟨_,rfl,?_⟩) | (go_at_call 91;(with_reducible refine (vz.calls a0 true _ A4.out).mono ?_);rintro e w' ⟨rfl,⟨nd,rfl⟩⟩))
   go_ret
   exact ⟨by first | rfl | (simp;done) | (simp [*];done),by repeat (first | exact Drawn0.refl _ | apply Drawn0.step)⟩
  ·replace c5 := Bool.eq_false_iff.mpr c5
   subst c5
   have H1 : (some (a0 == 95)) = some r := by rw [if_neg (show ¬ (false = true) by decide)] at H;exact H
   clear H
   have H := H1
   clear H1
   obtain rfl := Option.some.inj H
   go_enter Try.func70,Try.ntmps70
   go_wp2_with (first | ((with_reducible refine jv (f := 90) rfl ?_);refine goesL_ (some 4) rfl rfl Try.func90 (by kernel_rfl) rfl #[.int .u8 a0] rfl (by (try simp only [List.map_toArray,List.map_cons,List.map_nil]);first | done | rfl | (simp only [List.length_drop,List.length_take];rfl)) ?_;(with_reducible refine (vw.calls a0 false _ A2.out).mono ?_);rintro e w' ⟨rfl,⟨nd,rfl⟩⟩;refine ⟨_,rfl,?_⟩) | (go_at_call 91;(with_reducible refine (vz.calls a0 false _ A4.out).mono ?_);rintro e w' ⟨rfl,⟨nd,rfl⟩⟩))
   go_ret
   exact ⟨by first | rfl | (simp;done) | (simp [*];done),by repeat (first | exact Drawn0.refl _ | apply Drawn0.step)⟩
end Go.Proofs.Ytakocdkcfjkmdaa.Pr
namespace Go.Proofs.Ytakocdkcfjkmdaa.Pr
open Go.RowKit Go.Proofs.YtakocdkcfjkmdaaW.PrintWords Go.Proofs.YtakocdkcfjkmdaaW.PrintLast Go.Proofs.YtakocdkcfjkmdaaW.PrintMore
attribute [local go_sem] max2_int min2_int max_two min_two max_three min_three max_four min_four
set_option linter.unusedVariables false
set_option linter.unusedSimpArgs false
mutual
def vk.j0 : Nat → ByteArray → Bool → Option (Bool)
 | 0,_,_ => none
 | k + 1,x0,x11 => if x11 = true then (some false) else (vk.l0 k x0 (x0.size : Int) 0)
def vk.l0 : Nat → ByteArray → Int → Int → Option (Bool)
 | 0,_,_,_ => none
 | k + 1,x0,x13,x14 => if x14 < x13 then (if 0 ≤ x14 then (if x14 < (x0.size : Int) then ((wq.f (bt x0 x14)).bind fun t101 => (if t101 = true then (vk.l0 k x0 x13 (wrap64 (x14 + 1))) else (if (bt x0 x14) = 45 then (vk.l0 k x0 x13 (wrap64 (x14 + 1))) else (if (bt x0 x14) = 46 then (vk.l0 k x0 x13 (wrap64 (x14 + 1))) else (some false))))) else (none)) else (none)) else (some true)
end
def vk.f (k : Nat) (a0 : ByteArray) : Option (Bool) := if (a0.size : Int) < 1 then (vk.j0 k a0 true) else (vk.j0 k a0 (decide ((a0.size : Int) > 40)))
set_option maxHeartbeats 8000000 in
set_option maxRecDepth 100000 in
theorem vk.calls (k : Nat) (a0 : ByteArray) (r : Bool) (w : World) (h : vk.f k a0 = some r) :
  Calls Try.prog 40 #[.string a0] w fun e w' => e = .returned (.bool r) ∧ Drawn0 w w' := by
 have H : (if (a0.size : Int) < 1 then (vk.j0 k a0 true) else (vk.j0 k a0 (decide ((a0.size : Int) > 40)))) = some r := h
 clear h
 have HC2 := qq.mk H
 clear H
 go_enter Try.func40,Try.ntmps40
 go_upto_region 1 with (fail)
 go_cut [11] (fun v11 wc => ∃ (kq : Nat) (x11_1 : Bool),v11 = .bool x11_1 ∧ qq (vk.j0 kq a0 x11_1 = some r) ∧ qq (kq ≤ k) ∧ Drawn0 w wc)
 case first =>
  have H := HC2.out
  clear HC2
  by_cases c3 : (a0.size : Int) < 1
  ·rw [if_pos c3] at H
   have c3b0 : decide ((a0.size : Int) < 1) = true := decide_eq_true c3
   have c3b1 : decide (a0.size < 1) = true := decide_eq_true (by omega)
   clear c3
   (first | rw [c3b0] | (simp only [i64_w,i32_w];rw [c3b0]) | skip)
   have H' := qq.mk H
   clear H
   go_wp2
   go_meet
   case rel => exact ⟨_,(true),(by first | rfl | (simp;done) | (simp [*];done)),H',⟨by first | omega | exact Nat.le_refl _⟩,by repeat (first | exact Drawn0.refl _ | apply Drawn0.step)⟩
  ·rw [if_neg c3] at H
   have c3b0 : decide ((a0.size : Int) < 1) = false := decide_eq_false c3
   have c3b1 : decide (a0.size < 1) = false := decide_eq_false (by omega)
   clear c3
   (first | rw [c3b0] | (simp only [i64_w,i32_w];rw [c3b0]) | skip)
   have H' := qq.mk H
   clear H
   go_wp2
   go_meet
   case rel => exact ⟨_,(decide ((a0.size : Int) > 40)),(by first | rfl | (simp;done) | (simp [*];done)),H',⟨by first | omega | exact Nat.le_refl _⟩,by repeat (first | exact Drawn0.refl _ | apply Drawn0.step)⟩
 case rest =>
  clear HC2
  try clear p2
  try clear c3
  try clear c3b0
  try clear c3b1
  obtain ⟨kq,x11_1,rfl,HA,HJ1,⟨mc1,rfl⟩⟩ := hcut
  cases kq with
  | zero => exact absurd HA.out (by simp [vk.j0])
  | succ kj1 =>
   have H := HA.out
   clear HA
   simp only [vk.j0] at H
   by_cases c4 : x11_1 = true
   ·subst c4
    have H1 : (some false) = some r := by rw [if_pos rfl] at H;exact H
    clear H
    have H := H1
    clear H1
    obtain rfl := Option.some.inj H
    go_wp2
    go_ret
    exact ⟨by first | rfl | (simp;done) | (simp [*];done),by repeat (first | exact Drawn0.refl _ | apply Drawn0.step)⟩
   ·replace c4 := Bool.eq_false_iff.mpr c4
    subst c4
    have H1 : (vk.l0 kj1 a0 (a0.size : Int) 0) = some r := by rw [if_neg (show ¬ (false = true) by decide)] at H;exact H
    clear H
    have H := H1
    clear H1
    have H' := qq.mk H
    clear H
    go_wp2
    go_loopg [14] kj1 (fun kq v14 w' => ∃ (x14_2 : Int),v14 = .int .i64 x14_2 ∧ qq (vk.l0 kq a0 (a0.size : Int) x14_2 = some r) ∧ qq (kq ≤ kj1) ∧ Drawn0 w w')
    case atStart => exact ⟨(0),(by first | rfl | (simp;done) | (simp [*];done)),H',⟨Nat.le_refl _⟩,by repeat (first | exact Drawn0.refl _ | apply Drawn0.step)⟩
    case round =>
     clear H'
     try clear c1
     try clear p2
     try clear c3
     try clear c3b0
     try clear c3b1
     try clear c4
     try clear p2
     obtain ⟨x14_2,rfl,HA,HK2,⟨m2,rfl⟩⟩ := hrel
     cases gk with
     | zero => exact absurd HA.out (by simp [vk.l0])
     | succ k2 =>
      have H := HA.out
      clear HA
      simp only [vk.l0] at H
      by_cases c5 : x14_2 < (a0.size : Int)
      ·rw [if_pos c5] at H
       have c5b0 : decide (x14_2 < (a0.size : Int)) = true := decide_eq_true c5
       clear c5
       by_cases c6 : 0 ≤ x14_2
       ·rw [if_pos c6] at H
        have c6b0 : decide (0 ≤ x14_2) = true := decide_eq_true c6
        clear c6
        by_cases c7 : x14_2 < (a0.size : Int)
        ·rw [if_pos c7] at H
         have c7b0 : decide (x14_2 < (a0.size : Int)) = true := decide_eq_true c7
         clear c7
         replace H := Option.bind_eq_some_iff.mp H
         obtain ⟨t101,A90,H⟩ := H
         replace H : (if t101 = true then (vk.l0 k2 a0 (a0.size : Int) (wrap64 (x14_2 + 1))) else (if (bt a0 x14_2) = 45 then (vk.l0 k2 a0 (a0.size : Int) (wrap64 (x14_2 + 1))) else (if (bt a0 x14_2) = 46 then (vk.l0 k2 a0 (a0.size : Int) (wrap64 (x14_2 + 1))) else (some false)))) = some r := H
         have A9 := qq.mk A90
         clear A90
         by_cases c10 : t101 = true
         ·subst c10
          have H1 : (vk.l0 k2 a0 (a0.size : Int) (wrap64 (x14_2 + 1))) = some r := by rw [if_pos rfl] at H;exact H
          clear H
          have H := H1
          clear H1
          have H' := qq.mk H
          clear H
          have p8 : 0 ≤ (x14_2 : Int) := of_decide_eq_true (by assumption)
          have q8 : x14_2 < (a0.size : Int) := of_decide_eq_true (by assumption)
          have hx8 := bt_at a0 x14_2
          replace p8 := eq_true p8
          replace q8 := eq_true q8
          go_wp2_with (first | ((with_reducible refine jv (f := 70) rfl ?_);refine goesL_ (some 20) rfl rfl Try.func70 (by kernel_rfl) rfl #[.int .u8 (bt a0 x14_2)] rfl (by (try simp only [List.map_toArray,List.map_cons,List.map_nil]);first | done | rfl | (simp only [List.length_drop,List.length_take];rfl)) ?_;(with_reducible refine (wq.calls (bt a0 x14_2) true _ A9.out).mono ?_);rintro e w' ⟨rfl,⟨nd,rfl⟩⟩;refine ⟨_,rfl,?_⟩))
          go_roundg k2
          case measure => have := HJ1.out;have := HK2.out;omega
          case rel => exact ⟨(wrap64 (x14_2 + 1)),(by first | rfl | (simp;done) | (simp [*];done)),H',⟨by have := HJ1.out;have := HK2.out;omega⟩,by repeat (first | exact Drawn0.refl _ | apply Drawn0.step)⟩
         ·replace c10 := Bool.eq_false_iff.mpr c10
          subst c10
          have H1 : (if (bt a0 x14_2) = 45 then (vk.l0 k2 a0 (a0.size : Int) (wrap64 (x14_2 + 1))) else (if (bt a0 x14_2) = 46 then (vk.l0 k2 a0 (a0.size : Int) (wrap64 (x14_2 + 1))) else (some false))) = some r := by rw [if_neg (show ¬ (false = true) by decide)] at H;exact H
          clear H
          have H := H1
          clear H1
          by_cases c12 : (bt a0 x14_2) = 45
          ·rw [if_pos c12] at H
           have c12b0 : ((bt a0 x14_2) == 45) = true := beq_iff_eq.mpr c12
           have c12b1 : ((bt a0 x14_2) != 45) = false := bne_eq_false_iff_eq.mpr c12
           clear c12
           have H' := qq.mk H
           clear H
           have p8 : 0 ≤ (x14_2 : Int) := of_decide_eq_true (by assumption)
           have q8 : x14_2 < (a0.size : Int) := of_decide_eq_true (by assumption)
           have hx8 := bt_at a0 x14_2
           replace p8 := eq_true p8
           replace q8 := eq_true q8
           go_wp2_with (first | ((with_reducible refine jv (f := 70) rfl ?_);refine goesL_ (some 20) rfl rfl Try.func70 (by kernel_rfl) rfl #[.int .u8 (bt a0 x14_2)] rfl (by (try simp only [List.map_toArray,List.map_cons,List.map_nil]);first | done | rfl | (simp only [List.length_drop,List.length_take];rfl)) ?_;(with_reducible refine (wq.calls (bt a0 x14_2) false _ A9.out).mono ?_);rintro e w' ⟨rfl,⟨nd,rfl⟩⟩;refine ⟨_,rfl,?_⟩;have p11 : 0 ≤ (x14_2 : Int) := of_decide_eq_true (by assumption);have q11 : x14_2 < (a0.size : Int) := of_decide_eq_true (by assumption);have hx11 := bt_at a0 x14_2;replace p11 := eq_true p11;replace q11 := eq_true q11))
           go_roundg k2
           case measure => have := HJ1.out;have := HK2.out;omega
           case rel => exact ⟨(wrap64 (x14_2 + 1)),(by first | rfl | (simp;done) | (simp [*];done)),H',⟨by have := HJ1.out;have := HK2.out;omega⟩,by repeat (first | exact Drawn0.refl _ | apply Drawn0.step)⟩
          ·rw [if_neg c12] at H
           have c12b0 : ((bt a0 x14_2) == 45) = false := beq_eq_false_iff_ne.mpr c12
           have c12b1 : ((bt a0 x14_2) != 45) = true := bne_iff_ne.mpr c12
           by_cases c14 : (bt a0 x14_2) = 46
           ·rw [if_pos c14] at H
            have c14b0 : ((bt a0 x14_2) == 46) = true := beq_iff_eq.mpr c14
            have c14b1 : ((bt a0 x14_2) != 46) = false := bne_eq_false_iff_eq.mpr c14
            clear c14
            have H' := qq.mk H
            clear H
            have p8 : 0 ≤ (x14_2 : Int) := of_decide_eq_true (by assumption)
            have q8 : x14_2 < (a0.size : Int) := of_decide_eq_true (by assumption)
            have hx8 := bt_at a0 x14_2
            replace p8 := eq_true p8
            replace q8 := eq_true q8
            go_wp2_with (first | ((with_reducible refine jv (f := 70) rfl ?_);refine goesL_ (some 20) rfl rfl Try.func70 (by kernel_rfl) rfl #[.int .u8 (bt a0 x14_2)] rfl (by (try simp only [List.map_toArray,List.map_cons,List.map_nil]);first | done | rfl | (simp only [List.length_drop,List.length_take];rfl)) ?_;(with_reducible refine (wq.calls (bt a0 x14_2) false _ A9.out).mono ?_);rintro e w' ⟨rfl,⟨nd,rfl⟩⟩;refine ⟨_,rfl,?_⟩;have p11 : 0 ≤ (x14_2 : Int) := of_decide_eq_true (by assumption);have q11 : x14_2 < (a0.size : Int) := of_decide_eq_true (by assumption);have hx11 := bt_at a0 x14_2;replace p11 := eq_true p11;replace q11 := eq_true q11;have p13 : 0 ≤ (x14_2 : Int) := of_decide_eq_true (by assumption);have q13 : x14_2 < (a0.size : Int) := of_decide_eq_true (by assumption);have hx13 := bt_at a0 x14_2;replace p13 := eq_true p13;replace q13 := eq_true q13))
            go_roundg k2
            case measure => have := HJ1.out;have := HK2.out;omega
            case rel => exact ⟨(wrap64 (x14_2 + 1)),(by first | rfl | (simp;done) | (simp [*];done)),H',⟨by have := HJ1.out;have := HK2.out;omega⟩,by repeat (first | exact Drawn0.refl _ | apply Drawn0.step)⟩
           ·rw [if_neg c14] at H
            have c14b0 : ((bt a0 x14_2) == 46) = false := beq_eq_false_iff_ne.mpr c14
            have c14b1 : ((bt a0 x14_2) != 46) = true := bne_iff_ne.mpr c14
            obtain rfl := Option.some.inj H
            have p8 : 0 ≤ (x14_2 : Int) := of_decide_eq_true (by assumption)
            have q8 : x14_2 < (a0.size : Int) := of_decide_eq_true (by assumption)
            have hx8 := bt_at a0 x14_2
            replace p8 := eq_true p8
            replace q8 := eq_true q8
            go_wp2_with (first | ((with_reducible refine jv (f := 70) rfl ?_);refine goesL_ (some 20) rfl rfl Try.func70 (by kernel_rfl) rfl #[.int .u8 (bt a0 x14_2)] rfl (by (try simp only [List.map_toArray,List.map_cons,List.map_nil]);first | done | rfl | (simp only [List.length_drop,List.length_take];rfl)) ?_;(with_reducible refine (wq.calls (bt a0 x14_2) false _ A9.out).mono ?_);rintro e w' ⟨rfl,⟨nd,rfl⟩⟩;refine ⟨_,rfl,?_⟩;have p11 : 0 ≤ (x14_2 : Int) := of_decide_eq_true (by assumption);have q11 : x14_2 < (a0.size : Int) := of_decide_eq_true (by assumption);have hx11 := bt_at a0 x14_2;replace p11 := eq_true p11;replace q11 := eq_true q11;have p13 : 0 ≤ (x14_2 : Int) := of_decide_eq_true (by assumption);have q13 : x14_2 < (a0.size : Int) := of_decide_eq_true (by assumption);have hx13 := bt_at a0 x14_2;replace p13 := eq_true p13;replace q13 := eq_true q13))
            go_ret
            exact ⟨by first | rfl | (simp;done) | (simp [*];done),by repeat (first | exact Drawn0.refl _ | apply Drawn0.step)⟩
        ·rw [if_neg c7] at H
         exact absurd H (by simp)
       ·rw [if_neg c6] at H
        exact absurd H (by simp)
      ·rw [if_neg c5] at H
       have c5b0 : decide (x14_2 < (a0.size : Int)) = false := decide_eq_false c5
       clear c5
       obtain rfl := Option.some.inj H
       go_wp2
       go_ret
       exact ⟨by first | rfl | (simp;done) | (simp [*];done),by repeat (first | exact Drawn0.refl _ | apply Drawn0.step)⟩
end Go.Proofs.Ytakocdkcfjkmdaa.Pr
namespace Go.Proofs.Ytakocdkcfjkmdaa.Pr
open Go.RowKit Go.Proofs.YtakocdkcfjkmdaaW.PrintWords Go.Proofs.YtakocdkcfjkmdaaW.PrintLast Go.Proofs.YtakocdkcfjkmdaaW.PrintMore
attribute [local go_sem] max2_int min2_int max_two min_two max_three min_three max_four min_four
set_option linter.unusedVariables false
set_option linter.unusedSimpArgs false
def vx.l0 : Nat → Int → Int → Int → Int → Option (Int)
 | 0,_,_,_,_ => none
 | k + 1,x0,x1,x2,x7 => if x1 > 0 then (if (Go.bits .and .i64 x1 1) = 1 then (if x2 = 0 then (none) else (vx.l0 k (Int.tmod (wrap64 (x0 * x0)) x2) (x1 / 2) x2 (Int.tmod (wrap64 (x7 * x0)) x2))) else (if x2 = 0 then (none) else (vx.l0 k (Int.tmod (wrap64 (x0 * x0)) x2) (x1 / 2) x2 x7))) else (some x7)
def vx.f (k : Nat) (a0 : Int) (a1 : Int) (a2 : Int) : Option (Int) := if a2 = 0 then (none) else (vx.l0 k (Int.tmod a0 a2) a1 a2 1)
set_option maxHeartbeats 8000000 in
set_option maxRecDepth 100000 in
theorem vx.calls (k : Nat) (a0 : Int) (a1 : Int) (a2 : Int) (r : Int) (w : World) (h : vx.f k a0 a1 a2 = some r) :
  Calls Try.prog 71 #[.int .i64 a0,.int .i64 a1,.int .i64 a2] w fun e w' => e = .returned (.int .i64 r) ∧ Drawn0 w w' := by
 have H : (if a2 = 0 then (none) else (vx.l0 k (Int.tmod a0 a2) a1 a2 1)) = some r := h
 clear h
 by_cases c4 : a2 = 0
 ·rw [if_pos c4] at H
  exact absurd H (by simp)
 ·rw [if_neg c4] at H
  have c4b0 : (a2 == 0) = false := beq_eq_false_iff_ne.mpr c4
  have c4b1 : (a2 != 0) = true := bne_iff_ne.mpr c4
  have H' := qq.mk H
  clear H
  go_enter Try.func71,Try.ntmps71
  go_wp2
  go_loopg [0,1,7] k (fun kq v0 v1 v7 w' => ∃ (x0_1 : Int) (x1_1 : Int) (x7_1 : Int),v0 = .int .i64 x0_1 ∧ v1 = .int .i64 x1_1 ∧ v7 = .int .i64 x7_1 ∧ qq (vx.l0 kq x0_1 x1_1 a2 x7_1 = some r) ∧ qq (kq ≤ k) ∧ Drawn0 w w')
  case atStart => exact ⟨(Int.tmod a0 a2),(a1),(1),(by first | rfl | (simp;done) | (simp [*];done)),(by first | rfl | (simp;done) | (simp [*];done)),(by first | rfl | (simp;done) | (simp [*];done)),H',⟨Nat.le_refl _⟩,by repeat (first | exact Drawn0.refl _ | apply Drawn0.step)⟩
  case round =>
   clear H'
   try clear p2
   try clear c4
   try clear c4b0
   try clear c4b1
   obtain ⟨x0_1,x1_1,x7_1,rfl,rfl,rfl,HA,HK1,⟨m1,rfl⟩⟩ := hrel
   cases gk with
   | zero => exact absurd HA.out (by simp [vx.l0])
   | succ k1 =>
    have H := HA.out
    clear HA
    simp only [vx.l0] at H
    by_cases c5 : x1_1 > 0
    ·rw [if_pos c5] at H
     have c5b0 : decide (0 < x1_1) = true := decide_eq_true c5
     clear c5
     by_cases c6 : (Go.bits .and .i64 x1_1 1) = 1
     ·rw [if_pos c6] at H
      have c6b0 : ((Go.bits .and .i64 x1_1 1) == 1) = true := beq_iff_eq.mpr c6
      have c6b1 : ((Go.bits .and .i64 x1_1 1) != 1) = false := bne_eq_false_iff_eq.mpr c6
      clear c6
      by_cases c7 : a2 = 0
      ·rw [if_pos c7] at H
       exact absurd H (by simp)
      ·rw [if_neg c7] at H
       have c7b0 : (a2 == 0) = false := beq_eq_false_iff_ne.mpr c7
       have c7b1 : (a2 != 0) = true := bne_iff_ne.mpr c7
       have H' := qq.mk H
       clear H
       go_wp2
       go_roundg k1
       case measure => have := HK1.out;omega
       case rel => exact ⟨(Int.tmod (wrap64 (x0_1 * x0_1)) a2),(x1_1 / 2),(Int.tmod (wrap64 (x7_1 * x0_1)) a2),(by first | rfl | (simp;done) | (simp [*];done)),(by first | rfl | (simp;done) | (simp [*];done)),(by first | rfl | (simp;done) | (simp [*];done)),H',⟨by have := HK1.out;omega⟩,by repeat (first | exact Drawn0.refl _ | apply Drawn0.step)⟩
     ·rw [if_neg c6] at H
      have c6b0 : ((Go.bits .and .i64 x1_1 1) == 1) = false := beq_eq_false_iff_ne.mpr c6
      have c6b1 : ((Go.bits .and .i64 x1_1 1) != 1) = true := bne_iff_ne.mpr c6
      by_cases c8 : a2 = 0
      ·rw [if_pos c8] at H
       exact absurd H (by simp)
      ·rw [if_neg c8] at H
       have c8b0 : (a2 == 0) = false := beq_eq_false_iff_ne.mpr c8
       have c8b1 : (a2 != 0) = true := bne_iff_ne.mpr c8
       have H' := qq.mk H
       clear H
       go_wp2
       go_roundg k1
       case measure => have := HK1.out;omega
       case rel => exact ⟨(Int.tmod (wrap64 (x0_1 * x0_1)) a2),(x1_1 / 2),(x7_1),(by first | rfl | (simp;done) | (simp [*];done)),(by first | rfl | (simp;done) | (simp [*];done)),(by first | rfl | (simp;done) | (simp [*];done)),H',⟨by have := HK1.out;omega⟩,by repeat (first | exact Drawn0.refl _ | apply Drawn0.step)⟩
    ·rw [if_neg c5] at H
     have c5b0 : decide (0 < x1_1) = false := decide_eq_false c5
     clear c5
     obtain rfl := Option.some.inj H
     go_wp2
     go_ret
     exact ⟨by first | rfl | (simp;done) | (simp [*];done),by repeat (first | exact Drawn0.refl _ | apply Drawn0.step)⟩
end Go.Proofs.Ytakocdkcfjkmdaa.Pr
