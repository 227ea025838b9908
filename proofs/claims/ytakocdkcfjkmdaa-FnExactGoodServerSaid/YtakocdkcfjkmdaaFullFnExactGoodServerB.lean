/- Printed texts, walks and plain facts that the law FnExactGoodServer leans on, joined. -/
import Derived.Test.YtakocdkcfjkmdaaFullFnExactGoodServerA
import Derived.ProofKit
import Derived.OpenShut
import Derived.ShutString
import Derived.ChangeOld
import Derived.Deep.Slices
import Derived.Lib.SmallJoins
import Derived.Test.YtakocdkcfjkmdaaProg
import Derived.Below
import Derived.Deep.Draws
import Derived.Deep.AppendLies
import Derived.Maps.AppendAt
import Derived.OwnWalk
import Derived.Laws.BytesArg
import Derived.Laws.MakeOwn
import Derived.Laws.OwnMore
import Derived.Deep.OwnRows
import Derived.Tactics
import Derived.Lib.ConvBytes
import Derived.Laws.Slices
import Derived.WalkKit
import Derived.KernelRfl
import Derived.RowKit3
import Derived.Deep.LoopGhost
import Derived.Deep.QuietTactic
import Derived.BigQuiet
import Derived.WideLaws
import Derived.Deep.DeepCutAuto
import Derived.Deep.CutBlock
import Derived.Deep.RegionHeld3
import Derived.Laws.Rows
import Derived.Lib.AppendStr
import Derived.ArgAppend
import Derived.Laws.IdiomCopy
import Derived.OrdersHeld
import Derived.Laws.BitsLemmas
import Derived.RowKit
import Derived.Laws.Cover1
namespace Go.Proofs.Ytakocdkcfjkmdaa.Read
open Go.RowKit Go.ChangeShapes Go.WideShapes Go.Deep Go.Proofs.YtakocdkcfjkmdaaW.PrintWords
set_option linter.unusedVariables false
def Tells (P : Program) (t : TypeId) {α : Type} (d : Kd α) (ok : α → Prop) : Prop :=
 P.cellsOf t = d.sz ∧ ∀ (H : Type) (enc : TypeId × Value → H) (w : World) (sp : Nat → Bool) (fuel : Nat) (cs : List Value) (x : DataW H × List MemPlace),
  DataW.trod enc P w 0 sp true fuel t cs = some x → ∃ a : α,d.K w a cs ∧ ok a
theorem tells_int {P : Program} {t : TypeId} {k : IntKind} (ht : P.underlying t = some (.int k)) (hc : P.cellsOf t = 1) : Tells P t (Kd.int k) (fun n => (Lit.int k n).wf = true) :=
 ⟨hc,fun H enc w sp fuel cs x h => by
  obtain ⟨n,rfl,_,hw⟩ := DataW.trod_int ht h
  exact ⟨n,rfl,hw⟩⟩
theorem tells_string {P : Program} {t : TypeId} (ht : P.underlying t = some .string) (hc : P.cellsOf t = 1) : Tells P t Kd.string (fun s => s.size ≤ maxLen) :=
 ⟨hc,fun H enc w sp fuel cs x h => by
  obtain ⟨n,rfl,_,hs⟩ := DataW.trod_string ht h
  exact ⟨n,rfl,hs⟩⟩
theorem tells_slice {P : Program} {t e : TypeId} {α : Type} {d : Kd α} {ok : α → Prop} (ht : P.underlying t = some (.slice e)) (hc : P.cellsOf t = 1) (he : Tells P e d ok) :
  Tells P t (Kd.slice e d) (fun xs => xs.length ≤ 9223372036854775807 ∧ ∀ x ∈ xs,ok x) := by
 refine ⟨hc,fun H enc w sp fuel cs x h => ?_⟩
 rcases open_slice ht h with ⟨rfl,_⟩ | ⟨a,len,cap,m,n,D,Pl,rfl,_,hl,hm,hmm,_,hx⟩
 ·exact ⟨[],⟨none,0,rfl,by simp,Kd.C_nil d w⟩,by simp,by simp⟩
 ·have hlm : len ≤ m := by rw [hmm];split <;> omega
  have hmax : len ≤ 9223372036854775807 := by unfold maxLen at hm;omega
  have key : ∀ j,j ≤ len → ∃ xs : List α,xs.length = j ∧ (∀ x ∈ xs,ok x) ∧ ∀ i p,xs[i]? = some p → ∃ c,c.length = d.sz ∧ d.K w p c ∧ ∀ k u,c[k]? = some u → w.cell? (a.add (i * d.sz + k)) = some u := by
   intro j
   induction j with
   | zero => exact fun _ => ⟨[],rfl,by simp,by simp⟩
   | succ j ih =>
    intro hj
    obtain ⟨xs,hxl,hok,hc⟩ := ih (by omega)
    obtain ⟨cs',h1,h2⟩ := hx j (by omega)
    obtain ⟨y,hy,hoky⟩ := he.2 H enc w sp n cs' _ h2
    obtain ⟨_,hcl,hcc⟩ := World.cells?_some h1
    refine ⟨xs ++ [y],by simp [hxl],fun x hx => ?_,fun i p hp => ?_⟩
    ·rcases List.mem_append.1 hx with hx | hx
     ·exact hok x hx
     ·rw [List.mem_singleton.1 hx];exact hoky
    ·rcases Nat.lt_or_ge i xs.length with hi | hi
     ·rw [List.getElem?_append_left hi] at hp
      exact hc i p hp
     ·rw [List.getElem?_append_right hi] at hp
      have hi' : i = xs.length := by
       rcases Nat.eq_zero_or_pos (i - xs.length) with h0 | h0
       ·omega
       ·rw [List.getElem?_eq_none (by simp;omega)] at hp;cases hp
      subst hi'
      simp only [Nat.sub_self,List.getElem?_cons_zero,Option.some.injEq] at hp
      subst hp
      refine ⟨cs',by rw [hcl,he.1],hy,fun k u hu => ?_⟩
      have hk : k < P.cellsOf e := by
       rcases Nat.lt_or_ge k cs'.length with h | h
       ·omega
       ·rw [List.getElem?_eq_none h] at hu;cases hu
      have := hcc k hk
      rw [Go.Addr.add_add,he.1,← hxl] at this
      rw [this];exact hu
  obtain ⟨xs,hxl,hok,hc⟩ := key len (Nat.le_refl _)
  refine ⟨xs,⟨some a,cap,by rw [hxl],by omega,?_⟩,by omega,hok⟩
  exact ⟨rfl,by omega,fun _ => ⟨a,rfl,hc⟩⟩
def TellsFs (P : Program) (fs : List Field) (o : Nat) {α : Type} (d : Kd α) (ok : α → Prop) : Prop :=
 ∀ (H : Type) (enc : TypeId × Value → H) (w : World) (sp : Nat → Bool) (n : Nat) (cs : List Value),o + d.sz = cs.length →
  (∀ f ∈ fs,∃ x,DataW.trod enc P w 0 sp true n f.type ((cs.drop f.offset).take (P.cellsOf f.type)) = some x) → ∃ a,d.K w a (cs.drop o) ∧ ok a
theorem fs_one {P : Program} {f : Field} {o : Nat} {α : Type} {d : Kd α} {ok : α → Prop} (ho : f.offset = o) (hf : Tells P f.type d ok) : TellsFs P [f] o d ok := by
 intro H enc w sp n cs hl h
 obtain ⟨x,hx⟩ := h f List.mem_cons_self
 obtain ⟨a,ha,hok⟩ := hf.2 H enc w sp n _ x hx
 refine ⟨a,?_,hok⟩
 rw [ho,hf.1,List.take_of_length_le (by rw [List.length_drop];omega)] at ha
 exact ha
theorem fs_cons {P : Program} {f : Field} {fs : List Field} {o : Nat} {α β : Type} {d : Kd α} {ok : α → Prop} {d2 : Kd β} {ok2 : β → Prop} (ho : f.offset = o) (hf : Tells P f.type d ok)
  (hr : TellsFs P fs (o + d.sz) d2 ok2) : TellsFs P (f :: fs) o (Kd.pair d d2) (fun p => ok p.1 ∧ ok2 p.2) := by
 intro H enc w sp n cs hl h
 have hl' : o + (d.sz + d2.sz) = cs.length := hl
 obtain ⟨x,hx⟩ := h f List.mem_cons_self
 obtain ⟨a,ha,hok⟩ := hf.2 H enc w sp n _ x hx
 obtain ⟨b,hb,hok2⟩ := hr H enc w sp n cs (by omega) (fun g hg => h g (List.mem_cons_of_mem _ hg))
 refine ⟨(a,b),⟨(cs.drop o).take d.sz,cs.drop (o + d.sz),?_,?_,hb⟩,hok,hok2⟩
 ·rw [← List.drop_drop,List.take_append_drop]
 ·rw [ho,hf.1] at ha;exact ha
theorem tells_struct {P : Program} {t : TypeId} {fs : Array Field} {α : Type} {d : Kd α} {ok : α → Prop} (ht : P.underlying t = some (.struct fs)) (hc : P.cellsOf t = d.sz) (hf : TellsFs P fs.toList 0 d ok) : Tells P t d ok := by
 refine ⟨hc,fun H enc w sp fuel cs x h => ?_⟩
 obtain ⟨xs,n,rfl,_,hl,hxl,hx⟩ := DataW.trod_struct ht h
 have := hf H enc w sp n cs (by rw [Nat.zero_add,← hc,hl]) (fun f hmem => by
  obtain ⟨i,hi,rfl⟩ := List.getElem_of_mem hmem
  have hi' : i < fs.size := by simpa using hi
  have h1 := hx i (fs.toList[i]) (by simp [hi'])
  refine ⟨xs[i]'(by omega),?_⟩
  rw [h1,List.getElem?_eq_getElem])
 simpa using this
theorem tells_iso {P : Program} {t : TypeId} {α β : Type} {d : Kd α} {ok : α → Prop} (f : β → α) (g : α → β) (hfg : ∀ a,f (g a) = a) (h : Tells P t d ok) : Tells P t (Kd.iso d f) (fun b => ok (f b)) :=
 ⟨h.1,fun H enc w sp fuel cs x hx => by
  obtain ⟨a,ha,hok⟩ := h.2 H enc w sp fuel cs x hx
  exact ⟨g a,by show d.K w (f (g a)) cs;rw [hfg];exact ha,by show ok (f (g a));rw [hfg];exact hok⟩⟩
theorem tells_weaken {P : Program} {t : TypeId} {α : Type} {d : Kd α} {ok ok' : α → Prop} (h : Tells P t d ok) (hw : ∀ a,ok a → ok' a) : Tells P t d ok' :=
 ⟨h.1,fun H enc w sp fuel cs x hx => let ⟨a,ha,ho⟩ := h.2 H enc w sp fuel cs x hx;⟨a,ha,hw a ho⟩⟩
theorem tells_arg {P : Program} {t : TypeId} {α : Type} {d : Kd α} {ok : α → Prop} (h : Tells P t d ok) {H : Type} {enc : TypeId × Value → H} {w : World} {sp : Nat → Bool} {v : Value} {D : DataW H} {ps : List MemPlace}
  (hv : DataW.Trod enc P w 0 sp true t v D ps) : ∃ a,d.K w a v.cells.toList ∧ ok a := by
 obtain ⟨fuel,hf⟩ := hv
 exact h.2 H enc w sp fuel _ _ hf
theorem int_bounds {n : Int} (h : (Lit.int .i64 n).wf = true) : -9223372036854775808 ≤ n ∧ n ≤ 9223372036854775807 := by
 simpa [Lit.wf,IntKind.min,IntKind.max,IntKind.signed,IntKind.bits] using h
theorem byte_bounds {n : Int} (h : (Lit.int .u8 n).wf = true) : 0 ≤ n ∧ n ≤ 255 := by
 simpa [Lit.wf,IntKind.min,IntKind.max,IntKind.signed,IntKind.bits] using h
def okI (n : Int) : Prop := -9223372036854775808 ≤ n ∧ n ≤ 9223372036854775807
def okB (n : Int) : Prop := 0 ≤ n ∧ n ≤ 255
def okS (s : ByteArray) : Prop := s.size ≤ 9223372036854775807
def okL {α : Type} (ok : α → Prop) (xs : List α) : Prop := xs.length ≤ 9223372036854775807 ∧ ∀ x ∈ xs,ok x
theorem tellsI {P : Program} {t : TypeId} (ht : P.underlying t = some (.int .i64)) (hc : P.cellsOf t = 1) : Tells P t (Kd.int .i64) okI := tells_weaken (tells_int ht hc) fun _ h => int_bounds h
theorem tellsB {P : Program} {t : TypeId} (ht : P.underlying t = some (.int .u8)) (hc : P.cellsOf t = 1) : Tells P t (Kd.int .u8) okB := tells_weaken (tells_int ht hc) fun _ h => byte_bounds h
theorem tellsS {P : Program} {t : TypeId} (ht : P.underlying t = some .string) (hc : P.cellsOf t = 1) : Tells P t Kd.string okS := tells_weaken (tells_string ht hc) fun _ h => by unfold maxLen at h;exact h
theorem tellsL {P : Program} {t e : TypeId} {α : Type} {d : Kd α} {ok : α → Prop} (ht : P.underlying t = some (.slice e)) (hc : P.cellsOf t = 1) (he : Tells P e d ok) : Tells P t (Kd.slice e d) (okL ok) := tells_slice ht hc he
theorem agg_of {P : Program} {t : TypeId} {fs : Array Field} {w : World} {r : Reach} {base : Nat} {v : Value} {cs : List Value} (ht : P.underlying t = some (.struct fs)) (hv : Value.okWide P w r base t v) (hc : v.cells.toList = cs) : v = .agg cs.toArray := by
 obtain ⟨xs,rfl,_⟩ := okWide_struct ht hv
 subst hc
 simp [Value.cells]
theorem arg_struct {P : Program} {t : TypeId} {fs : Array Field} {α : Type} {d : Kd α} {ok : α → Prop} (ht : P.underlying t = some (.struct fs)) (h : Tells P t d ok) {H : Type} {enc : TypeId × Value → H} {w w2 : World} {r : Reach} {base : Nat} {sp : Nat → Bool} {v : Value} {D : DataW H} {ps : List MemPlace}
  (ho : Value.okWide P w2 r base t v) (hv : DataW.Trod enc P w 0 sp true t v D ps) : ∃ a cs,v = .agg cs.toArray ∧ d.K w a cs ∧ ok a := by
 obtain ⟨a,hK,hok⟩ := tells_arg h hv
 exact ⟨a,_,agg_of ht ho rfl,hK,hok⟩
end Go.Proofs.Ytakocdkcfjkmdaa.Read
namespace Go.Proofs.Ytakocdkcfjkmdaa.Pr
open Go.RowKit Go.Proofs.YtakocdkcfjkmdaaW.PrintWords Go.Proofs.YtakocdkcfjkmdaaW.PrintLast Go.Proofs.YtakocdkcfjkmdaaW.PrintMore
attribute [local go_sem] max2_int min2_int max_two min_two max_three min_three max_four min_four
set_option linter.unusedVariables false
set_option linter.unusedSimpArgs false
def errW : Option Int → Value
 | none => .nilIface
 | some c => .iface 0 (.int .i64 c)
theorem jk : errW none = .nilIface := rfl
theorem jj (c : Int) : errW (some c) = .iface 0 (.int .i64 c) := rfl
theorem info3 : (Try.prog.info? 3).map (fun i => (i.zero,i.size,i.bytes)) = some (some (.int .i64 0),1,8) := by kernel_rfl
theorem info5 : (Try.prog.info? 5).map (fun i => (i.zero,i.size,i.bytes)) = some (some (.int .u8 0),1,1) := by kernel_rfl
theorem info9 : (Try.prog.info? 9).map (fun i => (i.zero,i.size,i.bytes)) = some (some (.string ⟨#[]⟩),1,16) := by kernel_rfl
theorem info77 : (Try.prog.info? 77).map (fun i => (i.zero,i.size,i.bytes)) = some (some (.agg #[(.string ⟨#[]⟩),(.slice none 0 0),(.slice none 0 0),(.slice none 0 0),(.slice none 0 0)]),5,112) := by kernel_rfl
structure S50 where
 f0 : ByteArray
 f1 : Int
 f2 : Int
 f3 : Int
structure S53 where
 f0 : ByteArray
 f1 : Int
 f2 : Int
 f3 : Int
structure S96 where
 f0 : ByteArray
 f1 : (List Int)
 f2 : (List ByteArray)
 f3 : (List ByteArray)
 f4 : (List Int)
def z96 : S96 := ⟨(⟨#[]⟩ : ByteArray),([] : List Int),([] : List ByteArray),([] : List ByteArray),([] : List Int)⟩
def k96 : Kd S96 := Kd.iso (Kd.pair Kd.string (Kd.pair (Kd.slice 5 (Kd.int .u8)) (Kd.pair (Kd.slice 9 Kd.string) (Kd.pair (Kd.slice 9 Kd.string) (Kd.slice 3 (Kd.int .i64)))))) (fun x : S96 => (x.f0,x.f1,x.f2,x.f3,x.f4))
theorem k96_open {w : World} {x : S96} {cs : List Value} (h : k96.K w x cs) : ∃ A1 c1 A2 c2 A3 c3 A4 c4,cs = [.string x.f0,.slice A1 x.f1.length c1,.slice A2 x.f2.length c2,.slice A3 x.f3.length c3,.slice A4 x.f4.length c4] ∧ x.f1.length ≤ c1 ∧ (Kd.int .u8).C w A1 x.f1.length x.f1 ∧ x.f2.length ≤ c2 ∧ Kd.string.C w A2 x.f2.length x.f2 ∧ x.f3.length ≤ c3 ∧ Kd.string.C w A3 x.f3.length x.f3 ∧ x.f4.length ≤ c4 ∧ (Kd.int .i64).C w A4 x.f4.length x.f4 := by
 obtain ⟨_,_,rfl,rfl,⟨_,_,rfl,⟨A1,c1,rfl,l1,g1⟩,⟨_,_,rfl,⟨A2,c2,rfl,l2,g2⟩,⟨_,_,rfl,⟨A3,c3,rfl,l3,g3⟩,⟨A4,c4,rfl,l4,g4⟩⟩⟩⟩⟩ := h
 exact ⟨A1,c1,A2,c2,A3,c3,A4,c4,rfl,l1,g1,l2,g2,l3,g3,l4,g4⟩
def vz (xs : List S96) (i : Int) : S96 := xs.getD i.toNat z96
theorem at_T96 {w : World} {A : Option Addr} {n : Nat} {xs : List S96} (h : Kd.C k96 w A n xs) (i : Int) (h0 : 0 ≤ i) (h1 : i < n) : ∃ ad A1 c1 A2 c2 A3 c3 A4 c4,A = some ad ∧ w.cell? (ad.add (i.toNat * 5)) = some (.string (vz xs i).f0) ∧ w.cell? ⟨(ad.add (i.toNat * 5)).block,(ad.add (i.toNat * 5)).off + 1,none⟩ = some (.slice A1 (vz xs i).f1.length c1) ∧ w.cell? ⟨(ad.add (i.toNat * 5)).block,(ad.add (i.toNat * 5)).off + 2,none⟩ = some (.slice A2 (vz xs i).f2.length c2) ∧ w.cell? ⟨(ad.add (i.toNat * 5)).block,(ad.add (i.toNat * 5)).off + 3,none⟩ = some (.slice A3 (vz xs i).f3.length c3) ∧ w.cell? ⟨(ad.add (i.toNat * 5)).block,(ad.add (i.toNat * 5)).off + 4,none⟩ = some (.slice A4 (vz xs i).f4.length c4) ∧ (vz xs i).f1.length ≤ c1 ∧ (Kd.int .u8).C w A1 (vz xs i).f1.length (vz xs i).f1 ∧ (vz xs i).f2.length ≤ c2 ∧ Kd.string.C w A2 (vz xs i).f2.length (vz xs i).f2 ∧ (vz xs i).f3.length ≤ c3 ∧ Kd.string.C w A3 (vz xs i).f3.length (vz xs i).f3 ∧ (vz xs i).f4.length ≤ c4 ∧ (Kd.int .i64).C w A4 (vz xs i).f4.length (vz xs i).f4 := by
 obtain ⟨ad,c,e,_,hK,hc0⟩ := Kd.C_get h z96 i h0 h1
 have hc : ∀ j u,c[j]? = some u → w.cell? (ad.add (i.toNat * 5 + j)) = some u := hc0
 obtain ⟨A1,c1,A2,c2,A3,c3,A4,c4,rfl,l1,g1,l2,g2,l3,g3,l4,g4⟩ := k96_open hK
 exact ⟨ad,A1,c1,A2,c2,A3,c3,A4,c4,e,hc 0 _ rfl,by rw [← add_field _ _ 1 (by omega)];exact hc 1 _ rfl,by rw [← add_field _ _ 2 (by omega)];exact hc 2 _ rfl,by rw [← add_field _ _ 3 (by omega)];exact hc 3 _ rfl,by rw [← add_field _ _ 4 (by omega)];exact hc 4 _ rfl,l1,g1,l2,g2,l3,g3,l4,g4⟩
structure S77 where
 f0 : ByteArray
 f1 : (List Int)
 f2 : (List ByteArray)
 f3 : (List ByteArray)
 f4 : (List Int)
def z77 : S77 := ⟨(⟨#[]⟩ : ByteArray),([] : List Int),([] : List ByteArray),([] : List ByteArray),([] : List Int)⟩
def k77 : Kd S77 := Kd.iso (Kd.pair Kd.string (Kd.pair (Kd.slice 5 (Kd.int .u8)) (Kd.pair (Kd.slice 9 Kd.string) (Kd.pair (Kd.slice 9 Kd.string) (Kd.slice 3 (Kd.int .i64)))))) (fun x : S77 => (x.f0,x.f1,x.f2,x.f3,x.f4))
theorem k77_open {w : World} {x : S77} {cs : List Value} (h : k77.K w x cs) : ∃ A1 c1 A2 c2 A3 c3 A4 c4,cs = [.string x.f0,.slice A1 x.f1.length c1,.slice A2 x.f2.length c2,.slice A3 x.f3.length c3,.slice A4 x.f4.length c4] ∧ x.f1.length ≤ c1 ∧ (Kd.int .u8).C w A1 x.f1.length x.f1 ∧ x.f2.length ≤ c2 ∧ Kd.string.C w A2 x.f2.length x.f2 ∧ x.f3.length ≤ c3 ∧ Kd.string.C w A3 x.f3.length x.f3 ∧ x.f4.length ≤ c4 ∧ (Kd.int .i64).C w A4 x.f4.length x.f4 := by
 obtain ⟨_,_,rfl,rfl,⟨_,_,rfl,⟨A1,c1,rfl,l1,g1⟩,⟨_,_,rfl,⟨A2,c2,rfl,l2,g2⟩,⟨_,_,rfl,⟨A3,c3,rfl,l3,g3⟩,⟨A4,c4,rfl,l4,g4⟩⟩⟩⟩⟩ := h
 exact ⟨A1,c1,A2,c2,A3,c3,A4,c4,rfl,l1,g1,l2,g2,l3,g3,l4,g4⟩
theorem k77_openM {w : World} {base : Nat} {ok : Nat → Prop} {x : S77} {cs : List Value} (h : k77.M w base ok x cs) : ∃ v1 v2 v3 v4,cs = [.string x.f0,v1,v2,v3,v4] ∧ (Kd.int .u8).R 5 w base ok v1 x.f1 ∧ Kd.string.R 9 w base ok v2 x.f2 ∧ Kd.string.R 9 w base ok v3 x.f3 ∧ (Kd.int .i64).R 3 w base ok v4 x.f4 := by
 obtain ⟨_,_,rfl,rfl,⟨_,_,rfl,⟨v1,rfl,g1⟩,⟨_,_,rfl,⟨v2,rfl,g2⟩,⟨_,_,rfl,⟨v3,rfl,g3⟩,⟨v4,rfl,g4⟩⟩⟩⟩⟩ := h
 exact ⟨v1,v2,v3,v4,rfl,g1,g2,g3,g4⟩
theorem k77_mkM (w : World) (base : Nat) (ok : Nat → Prop) (x : S77) {v1 : Value} (g1 : (Kd.int .u8).R 5 w base ok v1 x.f1) {v2 : Value} (g2 : Kd.string.R 9 w base ok v2 x.f2) {v3 : Value} (g3 : Kd.string.R 9 w base ok v3 x.f3) {v4 : Value} (g4 : (Kd.int .i64).R 3 w base ok v4 x.f4) : k77.M w base ok x [.string x.f0,v1,v2,v3,v4] := ⟨[.string x.f0],[v1,v2,v3,v4],rfl,rfl,⟨[v1],[v2,v3,v4],rfl,⟨v1,rfl,g1⟩,⟨[v2],[v3,v4],rfl,⟨v2,rfl,g2⟩,⟨[v3],[v4],rfl,⟨v3,rfl,g3⟩,⟨v4,rfl,g4⟩⟩⟩⟩⟩
def vq (xs : List S77) (i : Int) : S77 := xs.getD i.toNat z77
theorem at_T77 {w : World} {A : Option Addr} {n : Nat} {xs : List S77} (h : Kd.C k77 w A n xs) (i : Int) (h0 : 0 ≤ i) (h1 : i < n) : ∃ ad A1 c1 A2 c2 A3 c3 A4 c4,A = some ad ∧ w.cell? (ad.add (i.toNat * 5)) = some (.string (vq xs i).f0) ∧ w.cell? ⟨(ad.add (i.toNat * 5)).block,(ad.add (i.toNat * 5)).off + 1,none⟩ = some (.slice A1 (vq xs i).f1.length c1) ∧ w.cell? ⟨(ad.add (i.toNat * 5)).block,(ad.add (i.toNat * 5)).off + 2,none⟩ = some (.slice A2 (vq xs i).f2.length c2) ∧ w.cell? ⟨(ad.add (i.toNat * 5)).block,(ad.add (i.toNat * 5)).off + 3,none⟩ = some (.slice A3 (vq xs i).f3.length c3) ∧ w.cell? ⟨(ad.add (i.toNat * 5)).block,(ad.add (i.toNat * 5)).off + 4,none⟩ = some (.slice A4 (vq xs i).f4.length c4) ∧ (vq xs i).f1.length ≤ c1 ∧ (Kd.int .u8).C w A1 (vq xs i).f1.length (vq xs i).f1 ∧ (vq xs i).f2.length ≤ c2 ∧ Kd.string.C w A2 (vq xs i).f2.length (vq xs i).f2 ∧ (vq xs i).f3.length ≤ c3 ∧ Kd.string.C w A3 (vq xs i).f3.length (vq xs i).f3 ∧ (vq xs i).f4.length ≤ c4 ∧ (Kd.int .i64).C w A4 (vq xs i).f4.length (vq xs i).f4 := by
 obtain ⟨ad,c,e,_,hK,hc0⟩ := Kd.C_get h z77 i h0 h1
 have hc : ∀ j u,c[j]? = some u → w.cell? (ad.add (i.toNat * 5 + j)) = some u := hc0
 obtain ⟨A1,c1,A2,c2,A3,c3,A4,c4,rfl,l1,g1,l2,g2,l3,g3,l4,g4⟩ := k77_open hK
 exact ⟨ad,A1,c1,A2,c2,A3,c3,A4,c4,e,hc 0 _ rfl,by rw [← add_field _ _ 1 (by omega)];exact hc 1 _ rfl,by rw [← add_field _ _ 2 (by omega)];exact hc 2 _ rfl,by rw [← add_field _ _ 3 (by omega)];exact hc 3 _ rfl,by rw [← add_field _ _ 4 (by omega)];exact hc 4 _ rfl,l1,g1,l2,g2,l3,g3,l4,g4⟩
def qjx.f (a0 : Int) : Option (Bool) := if a0 ≥ 97 then (if a0 ≤ 122 then (some true) else (if a0 ≥ 65 then (some (decide (a0 ≤ 90))) else (some false))) else (if a0 ≥ 65 then (some (decide (a0 ≤ 90))) else (some false))
set_option maxHeartbeats 8000000 in
set_option maxRecDepth 100000 in
theorem qjx.calls (a0 : Int) (r : Bool) (w : World) (h : qjx.f a0 = some r) :
  Calls Try.prog 66 #[.int .u8 a0] w fun e w' => e = .returned (.bool r) ∧ Drawn0 w w' := by
 have H : (if a0 ≥ 97 then (if a0 ≤ 122 then (some true) else (if a0 ≥ 65 then (some (decide (a0 ≤ 90))) else (some false))) else (if a0 ≥ 65 then (some (decide (a0 ≤ 90))) else (some false))) = some r := h
 clear h
 by_cases c2 : a0 ≥ 97
 ·rw [if_pos c2] at H
  have c2b0 : decide (97 ≤ a0) = true := decide_eq_true c2
  clear c2
  by_cases c3 : a0 ≤ 122
  ·rw [if_pos c3] at H
   have c3b0 : decide (a0 ≤ 122) = true := decide_eq_true c3
   clear c3
   obtain rfl := Option.some.inj H
   go_enter Try.func66,Try.ntmps66
   go_wp2
   go_ret
   exact ⟨by first | rfl | (simp;done) | (simp [*];done),by repeat (first | exact Drawn0.refl _ | apply Drawn0.step)⟩
  ·rw [if_neg c3] at H
   have c3b0 : decide (a0 ≤ 122) = false := decide_eq_false c3
   clear c3
   by_cases c4 : a0 ≥ 65
   ·rw [if_pos c4] at H
    have c4b0 : decide (65 ≤ a0) = true := decide_eq_true c4
    clear c4
    obtain rfl := Option.some.inj H
    go_enter Try.func66,Try.ntmps66
    go_wp2
    go_ret
    exact ⟨by first | rfl | (simp;done) | (simp [*];done),by repeat (first | exact Drawn0.refl _ | apply Drawn0.step)⟩
   ·rw [if_neg c4] at H
    have c4b0 : decide (65 ≤ a0) = false := decide_eq_false c4
    clear c4
    obtain rfl := Option.some.inj H
    go_enter Try.func66,Try.ntmps66
    go_wp2
    go_ret
    exact ⟨by first | rfl | (simp;done) | (simp [*];done),by repeat (first | exact Drawn0.refl _ | apply Drawn0.step)⟩
 ·rw [if_neg c2] at H
  have c2b0 : decide (97 ≤ a0) = false := decide_eq_false c2
  clear c2
  by_cases c5 : a0 ≥ 65
  ·rw [if_pos c5] at H
   have c5b0 : decide (65 ≤ a0) = true := decide_eq_true c5
   clear c5
   obtain rfl := Option.some.inj H
   go_enter Try.func66,Try.ntmps66
   go_wp2
   go_ret
   exact ⟨by first | rfl | (simp;done) | (simp [*];done),by repeat (first | exact Drawn0.refl _ | apply Drawn0.step)⟩
  ·rw [if_neg c5] at H
   have c5b0 : decide (65 ≤ a0) = false := decide_eq_false c5
   clear c5
   obtain rfl := Option.some.inj H
   go_enter Try.func66,Try.ntmps66
   go_wp2
   go_ret
   exact ⟨by first | rfl | (simp;done) | (simp [*];done),by repeat (first | exact Drawn0.refl _ | apply Drawn0.step)⟩
def qjw.f (a0 : Int) : Option (Bool) := if a0 ≥ 48 then (some (decide (a0 ≤ 57))) else (some false)
set_option maxHeartbeats 8000000 in
set_option maxRecDepth 100000 in
theorem qjw.calls (a0 : Int) (r : Bool) (w : World) (h : qjw.f a0 = some r) :
  Calls Try.prog 67 #[.int .u8 a0] w fun e w' => e = .returned (.bool r) ∧ Drawn0 w w' := by
 have H : (if a0 ≥ 48 then (some (decide (a0 ≤ 57))) else (some false)) = some r := h
 clear h
 by_cases c2 : a0 ≥ 48
 ·rw [if_pos c2] at H
  have c2b0 : decide (48 ≤ a0) = true := decide_eq_true c2
  clear c2
  obtain rfl := Option.some.inj H
  go_enter Try.func67,Try.ntmps67
  go_wp2
  go_ret
  exact ⟨by first | rfl | (simp;done) | (simp [*];done),by repeat (first | exact Drawn0.refl _ | apply Drawn0.step)⟩
 ·rw [if_neg c2] at H
  have c2b0 : decide (48 ≤ a0) = false := decide_eq_false c2
  clear c2
  obtain rfl := Option.some.inj H
  go_enter Try.func67,Try.ntmps67
  go_wp2
  go_ret
  exact ⟨by first | rfl | (simp;done) | (simp [*];done),by repeat (first | exact Drawn0.refl _ | apply Drawn0.step)⟩
def qkj.l0 : Nat → ByteArray → Int → Option (Bool)
 | 0,_,_ => none
 | k + 1,x0,x3 => if x3 < (x0.size : Int) then (if 0 ≤ x3 then ((qjx.f (bt x0 x3)).bind fun t101 => (if t101 = true then (qkj.l0 k x0 (wrap64 (x3 + 1))) else ((qjw.f (bt x0 x3)).bind fun t102 => (if t102 = true then (qkj.l0 k x0 (wrap64 (x3 + 1))) else (if (bt x0 x3) = 95 then (qkj.l0 k x0 (wrap64 (x3 + 1))) else (if (bt x0 x3) = 45 then (qkj.l0 k x0 (wrap64 (x3 + 1))) else (if (bt x0 x3) = 46 then (qkj.l0 k x0 (wrap64 (x3 + 1))) else (some false)))))))) else (none)) else (if (x0.size : Int) ≥ 1 then (some (decide ((x0.size : Int) ≤ 40))) else (some false))
def qkj.f (k : Nat) (a0 : ByteArray) : Option (Bool) := qkj.l0 k a0 0
set_option maxHeartbeats 8000000 in
set_option maxRecDepth 100000 in
theorem qkj.calls (k : Nat) (a0 : ByteArray) (r : Bool) (w : World) (h : qkj.f k a0 = some r) :
  Calls Try.prog 37 #[.string a0] w fun e w' => e = .returned (.bool r) ∧ Drawn0 w w' := by
 have H : (qkj.l0 k a0 0) = some r := h
 clear h
 have H' := qq.mk H
 clear H
 go_enter Try.func37,Try.ntmps37
 go_wp2
 go_loopg [3] k (fun kq v3 w' => ∃ (x3_1 : Int),v3 = .int .i64 x3_1 ∧ qq (qkj.l0 kq a0 x3_1 = some r) ∧ qq (kq ≤ k) ∧ Drawn0 w w')
 case atStart => exact ⟨(0),(by first | rfl | (simp;done) | (simp [*];done)),H',⟨Nat.le_refl _⟩,by repeat (first | exact Drawn0.refl _ | apply Drawn0.step)⟩
 case round =>
  clear H'
  obtain ⟨x3_1,rfl,HA,HK1,⟨m1,rfl⟩⟩ := hrel
  cases gk with
  | zero => exact absurd HA.out (by simp [qkj.l0])
  | succ k1 =>
   have H := HA.out
   clear HA
   simp only [qkj.l0] at H
   by_cases c2 : x3_1 < (a0.size : Int)
   ·rw [if_pos c2] at H
    have c2b0 : decide (x3_1 < (a0.size : Int)) = true := decide_eq_true c2
    clear c2
    by_cases c3 : 0 ≤ x3_1
    ·rw [if_pos c3] at H
     have c3b0 : decide (0 ≤ x3_1) = true := decide_eq_true c3
     clear c3
     replace H := Option.bind_eq_some_iff.mp H
     obtain ⟨t101,A50,H⟩ := H
     replace H : (if t101 = true then (qkj.l0 k1 a0 (wrap64 (x3_1 + 1))) else ((qjw.f (bt a0 x3_1)).bind fun t102 => (if t102 = true then (qkj.l0 k1 a0 (wrap64 (x3_1 + 1))) else (if (bt a0 x3_1) = 95 then (qkj.l0 k1 a0 (wrap64 (x3_1 + 1))) else (if (bt a0 x3_1) = 45 then (qkj.l0 k1 a0 (wrap64 (x3_1 + 1))) else (if (bt a0 x3_1) = 46 then (qkj.l0 k1 a0 (wrap64 (x3_1 + 1))) else (some false))))))) = some r := H
     have A5 := qq.mk A50
     clear A50
     by_cases c6 : t101 = true
     ·subst c6
      have H1 : (qkj.l0 k1 a0 (wrap64 (x3_1 + 1))) = some r := by rw [if_pos rfl] at H;exact H
      clear H
      have H := H1
      clear H1
      have H' := qq.mk H
      clear H
      have p4 : 0 ≤ (x3_1 : Int) := of_decide_eq_true (by assumption)
      have q4 : x3_1 < (a0.size : Int) := of_decide_eq_true (by assumption)
      have hx4 := bt_at a0 x3_1
      replace p4 := eq_true p4
      replace q4 := eq_true q4
      go_wp2_with (first | ((with_reducible refine jv (f := 66) rfl ?_);refine goesL_ (some 13) rfl rfl Try.func66 (by kernel_rfl) rfl #[.int .u8 (bt a0 x3_1)] rfl (by (try simp only [List.map_toArray,List.map_cons,List.map_nil]);first | done | rfl | (simp only [List.length_drop,List.length_take];rfl)) ?_;(with_reducible refine (qjx.calls (bt a0 x3_1) true _ A5.out).mono ?_);rintro e w' ⟨rfl,⟨nd,rfl⟩⟩;refine ⟨_,rfl,?_⟩))
      go_roundg k1
      case measure => have := HK1.out;omega
      case rel => exact ⟨(wrap64 (x3_1 + 1)),(by first | rfl | (simp;done) | (simp [*];done)),H',⟨by have := HK1.out;omega⟩,by repeat (first | exact Drawn0.refl _ | apply Drawn0.step)⟩
     ·replace c6 := Bool.eq_false_iff.mpr c6
      subst c6
      have H1 : ((qjw.f (bt a0 x3_1)).bind fun t102 => (if t102 = true then (qkj.l0 k1 a0 (wrap64 (x3_1 + 1))) else (if (bt a0 x3_1) = 95 then (qkj.l0 k1 a0 (wrap64 (x3_1 + 1))) else (if (bt a0 x3_1) = 45 then (qkj.l0 k1 a0 (wrap64 (x3_1 + 1))) else (if (bt a0 x3_1) = 46 then (qkj.l0 k1 a0 (wrap64 (x3_1 + 1))) else (some false)))))) = some r := by rw [if_neg (show ¬ (false = true) by decide)] at H;exact H
      clear H
      have H := H1
      clear H1
      replace H := Option.bind_eq_some_iff.mp H
      obtain ⟨t102,A80,H⟩ := H
      replace H : (if t102 = true then (qkj.l0 k1 a0 (wrap64 (x3_1 + 1))) else (if (bt a0 x3_1) = 95 then (qkj.l0 k1 a0 (wrap64 (x3_1 + 1))) else (if (bt a0 x3_1) = 45 then (qkj.l0 k1 a0 (wrap64 (x3_1 + 1))) else (if (bt a0 x3_1) = 46 then (qkj.l0 k1 a0 (wrap64 (x3_1 + 1))) else (some false))))) = some r := H
      have A8 := qq.mk A80
      clear A80
      by_cases c9 : t102 = true
      ·subst c9
       have H1 : (qkj.l0 k1 a0 (wrap64 (x3_1 + 1))) = some r := by rw [if_pos rfl] at H;exact H
       clear H
       have H := H1
       clear H1
       have H' := qq.mk H
       clear H
       have p4 : 0 ≤ (x3_1 : Int) := of_decide_eq_true (by assumption)
       have q4 : x3_1 < (a0.size : Int) := of_decide_eq_true (by assumption)
       have hx4 := bt_at a0 x3_1
       replace p4 := eq_true p4
       replace q4 := eq_true q4
       go_wp2_with (first | ((with_reducible refine jv (f := 66) rfl ?_);refine goesL_ (some 13) rfl rfl Try.func66 (by kernel_rfl) rfl #[.int .u8 (bt a0 x3_1)] rfl (by (try simp only [List.map_toArray,List.map_cons,List.map_nil]);first | done | rfl | (simp only [List.length_drop,List.length_take];rfl)) ?_;(with_reducible refine (qjx.calls (bt a0 x3_1) false _ A5.out).mono ?_);rintro e w' ⟨rfl,⟨nd,rfl⟩⟩;refine ⟨_,rfl,?_⟩;have p7 : 0 ≤ (x3_1 : Int) := of_decide_eq_true (by assumption);have q7 : x3_1 < (a0.size : Int) := of_decide_eq_true (by assumption);have hx7 := bt_at a0 x3_1;replace p7 := eq_true p7;replace q7 := eq_true q7) | (go_at_call 67;(with_reducible refine (qjw.calls (bt a0 x3_1) true _ A8.out).mono ?_);rintro e w' ⟨rfl,⟨nd,rfl⟩⟩))
       go_roundg k1
       case measure => have := HK1.out;omega
       case rel => exact ⟨(wrap64 (x3_1 + 1)),(by first | rfl | (simp;done) | (simp [*];done)),H',⟨by have := HK1.out;omega⟩,by repeat (first | exact Drawn0.refl _ | apply Drawn0.step)⟩
      ·replace c9 := Bool.eq_false_iff.mpr c9
       subst c9
       have H1 : (if (bt a0 x3_1) = 95 then (qkj.l0 k1 a0 (wrap64 (x3_1 + 1))) else (if (bt a0 x3_1) = 45 then (qkj.l0 k1 a0 (wrap64 (x3_1 + 1))) else (if (bt a0 x3_1) = 46 then (qkj.l0 k1 a0 (wrap64 (x3_1 + 1))) else (some false)))) = some r := by rw [if_neg (show ¬ (false = true) by decide)] at H;exact H
       clear H
       have H := H1
       clear H1
       by_cases c11 : (bt a0 x3_1) = 95
       ·rw [if_pos c11] at H
        have c11b0 : ((bt a0 x3_1) == 95) = true := beq_iff_eq.mpr c11
        have c11b1 : ((bt a0 x3_1) != 95) = false := bne_eq_false_iff_eq.mpr c11
        clear c11
        have H' := qq.mk H
        clear H
        have p4 : 0 ≤ (x3_1 : Int) := of_decide_eq_true (by assumption)
        have q4 : x3_1 < (a0.size : Int) := of_decide_eq_true (by assumption)
        have hx4 := bt_at a0 x3_1
        replace p4 := eq_true p4
        replace q4 := eq_true q4
        go_wp2_with (first | ((with_reducible refine jv (f := 66) rfl ?_);refine goesL_ (some 13) rfl rfl Try.func66 (by kernel_rfl) rfl #[.int .u8 (bt a0 x3_1)] rfl (by (try simp only [List.map_toArray,List.map_cons,List.map_nil]);first | done | rfl | (simp only [List.length_drop,List.length_take];rfl)) ?_;(with_reducible refine (qjx.calls (bt a0 x3_1) false _ A5.out).mono ?_);rintro e w' ⟨rfl,⟨nd,rfl⟩⟩;refine ⟨_,rfl,?_⟩;have p7 : 0 ≤ (x3_1 : Int) := of_decide_eq_true (by assumption);have q7 : x3_1 < (a0.size : Int) := of_decide_eq_true (by assumption);have hx7 := bt_at a0 x3_1;replace p7 := eq_true p7;replace q7 := eq_true q7) | (go_at_call 67;(with_reducible refine (qjw.calls (bt a0 x3_1) false _ A8.out).mono ?_);rintro e w' ⟨rfl,⟨nd,rfl⟩⟩;have p10 : 0 ≤ (x3_1 : Int) := of_decide_eq_true (by assumption);have q10 : x3_1 < (a0.size : Int) := of_decide_eq_true (by assumption);have hx10 := bt_at a0 x3_1;replace p10 := eq_true p10;replace q10 := eq_true q10))
        go_roundg k1
        case measure => have := HK1.out;omega
        case rel => exact ⟨(wrap64 (x3_1 + 1)),(by first | rfl | (simp;done) | (simp [*];done)),H',⟨by have := HK1.out;omega⟩,by repeat (first | exact Drawn0.refl _ | apply Drawn0.step)⟩
       ·rw [if_neg c11] at H
        have c11b0 : ((bt a0 x3_1) == 95) = false := beq_eq_false_iff_ne.mpr c11
        have c11b1 : ((bt a0 x3_1) != 95) = true := bne_iff_ne.mpr c11
        by_cases c13 : (bt a0 x3_1) = 45
        ·rw [if_pos c13] at H
         have c13b0 : ((bt a0 x3_1) == 45) = true := beq_iff_eq.mpr c13
         have c13b1 : ((bt a0 x3_1) != 45) = false := bne_eq_false_iff_eq.mpr c13
         clear c13
         have H' := qq.mk H
         clear H
         have p4 : 0 ≤ (x3_1 : Int) := of_decide_eq_true (by assumption)
         have q4 : x3_1 < (a0.size : Int) := of_decide_eq_true (by assumption)
         have hx4 := bt_at a0 x3_1
         replace p4 := eq_true p4
         replace q4 := eq_true q4
         go_wp2_with (first | ((with_reducible refine jv (f := 66) rfl ?_);refine goesL_ (some 13) rfl rfl Try.func66 (by kernel_rfl) rfl #[.int .u8 (bt a0 x3_1)] rfl (by (try simp only [List.map_toArray,List.map_cons,List.map_nil]);first | done | rfl | (simp only [List.length_drop,List.length_take];rfl)) ?_;(with_reducible refine (qjx.calls (bt a0 x3_1) false _ A5.out).mono ?_);rintro e w' ⟨rfl,⟨nd,rfl⟩⟩;refine ⟨_,rfl,?_⟩;have p7 : 0 ≤ (x3_1 : Int) := of_decide_eq_true (by assumption);have q7 : x3_1 < (a0.size : Int) := of_decide_eq_true (by assumption);have hx7 := bt_at a0 x3_1;replace p7 := eq_true p7;replace q7 := eq_true q7) | (go_at_call 67;(with_reducible refine (qjw.calls (bt a0 x3_1) false _ A8.out).mono ?_);rintro e w' ⟨rfl,⟨nd,rfl⟩⟩;have p10 : 0 ≤ (x3_1 : Int) := of_decide_eq_true (by assumption);have q10 : x3_1 < (a0.size : Int) := of_decide_eq_true (by assumption);have hx10 := bt_at a0 x3_1;replace p10 := eq_true p10;replace q10 := eq_true q10;have p12 : 0 ≤ (x3_1 : Int) := of_decide_eq_true (by assumption);have q12 : x3_1 < (a0.size : Int) := of_decide_eq_true (by assumption);have hx12 := bt_at a0 x3_1;replace p12 := eq_true p12;replace q12 := eq_true q12))
         go_roundg k1
         case measure => have := HK1.out;omega
         case rel => exact ⟨(wrap64 (x3_1 + 1)),(by first | rfl | (simp;done) | (simp [*];done)),H',⟨by have := HK1.out;omega⟩,by repeat (first | exact Drawn0.refl _ | apply Drawn0.step)⟩
        ·rw [if_neg c13] at H
         have c13b0 : ((bt a0 x3_1) == 45) = false := beq_eq_false_iff_ne.mpr c13
         have c13b1 : ((bt a0 x3_1) != 45) = true := bne_iff_ne.mpr c13
         by_cases c15 : (bt a0 x3_1) = 46
         ·rw [if_pos c15] at H
          have c15b0 : ((bt a0 x3_1) == 46) = true := beq_iff_eq.mpr c15
          have c15b1 : ((bt a0 x3_1) != 46) = false := bne_eq_false_iff_eq.mpr c15
          clear c15
          have H' := qq.mk H
          clear H
          have p4 : 0 ≤ (x3_1 : Int) := of_decide_eq_true (by assumption)
          have q4 : x3_1 < (a0.size : Int) := of_decide_eq_true (by assumption)
          have hx4 := bt_at a0 x3_1
          replace p4 := eq_true p4
          replace q4 := eq_true q4
          go_wp2_with (first | ((with_reducible refine jv (f := 66) rfl ?_);refine goesL_ (some 13) rfl rfl Try.func66 (by kernel_rfl) rfl #[.int .u8 (bt a0 x3_1)] rfl (by (try simp only [List.map_toArray,List.map_cons,List.map_nil]);first | done | rfl | (simp only [List.length_drop,List.length_take];rfl)) ?_;(with_reducible refine (qjx.calls (bt a0 x3_1) false _ A5.out).mono ?_);rintro e w' ⟨rfl,⟨nd,rfl⟩⟩;refine ⟨_,rfl,?_⟩;have p7 : 0 ≤ (x3_1 : Int) := of_decide_eq_true (by assumption);have q7 : x3_1 < (a0.size : Int) := of_decide_eq_true (by assumption);have hx7 := bt_at a0 x3_1;replace p7 := eq_true p7;replace q7 := eq_true q7) | (go_at_call 67;(with_reducible refine (qjw.calls (bt a0 x3_1) false _ A8.out).mono ?_);rintro e w' ⟨rfl,⟨nd,rfl⟩⟩;have p10 : 0 ≤ (x3_1 : Int) := of_decide_eq_true (by assumption);have q10 : x3_1 < (a0.size : Int) := of_decide_eq_true (by assumption);have hx10 := bt_at a0 x3_1;replace p10 := eq_true p10;replace q10 := eq_true q10;have p12 : 0 ≤ (x3_1 : Int) := of_decide_eq_true (by assumption);have q12 : x3_1 < (a0.size : Int) := of_decide_eq_true (by assumption);have hx12 := bt_at a0 x3_1;replace p12 := eq_true p12;replace q12 := eq_true q12;have p14 : 0 ≤ (x3_1 : Int) := of_decide_eq_true (by assumption);have q14 : x3_1 < (a0.size : Int) := of_decide_eq_true (by assumption);have hx14 := bt_at a0 x3_1;replace p14 := eq_true p14;replace q14 := eq_true q14))
          go_roundg k1
          case measure => have := HK1.out;omega
          case rel => exact ⟨(wrap64 (x3_1 + 1)),(by first | rfl | (simp;done) | (simp [*];done)),H',⟨by have := HK1.out;omega⟩,by repeat (first | exact Drawn0.refl _ | apply Drawn0.step)⟩
         ·rw [if_neg c15] at H
          have c15b0 : ((bt a0 x3_1) == 46) = false := beq_eq_false_iff_ne.mpr c15
          have c15b1 : ((bt a0 x3_1) != 46) = true := bne_iff_ne.mpr c15
          obtain rfl := Option.some.inj H
          have p4 : 0 ≤ (x3_1 : Int) := of_decide_eq_true (by assumption)
          have q4 : x3_1 < (a0.size : Int) := of_decide_eq_true (by assumption)
          have hx4 := bt_at a0 x3_1
          replace p4 := eq_true p4
          replace q4 := eq_true q4
          go_wp2_with (first | ((with_reducible refine jv (f := 66) rfl ?_);refine goesL_ (some 13) rfl rfl Try.func66 (by kernel_rfl) rfl #[.int .u8 (bt a0 x3_1)] rfl (by (try simp only [List.map_toArray,List.map_cons,List.map_nil]);first | done | rfl | (simp only [List.length_drop,List.length_take];rfl)) ?_;(with_reducible refine (qjx.calls (bt a0 x3_1) false _ A5.out).mono ?_);rintro e w' ⟨rfl,⟨nd,rfl⟩⟩;refine ⟨_,rfl,?_⟩;have p7 : 0 ≤ (x3_1 : Int) := of_decide_eq_true (by assumption);have q7 : x3_1 < (a0.size : Int) := of_decide_eq_true (by assumption);have hx7 := bt_at a0 x3_1;replace p7 := eq_true p7;replace q7 := eq_true q7) | (go_at_call 67;(with_reducible refine (qjw.calls (bt a0 x3_1) false _ A8.out).mono ?_);rintro e w' ⟨rfl,⟨nd,rfl⟩⟩;have p10 : 0 ≤ (x3_1 : Int) := of_decide_eq_true (by assumption);have q10 : x3_1 < (a0.size : Int) := of_decide_eq_true (by assumption);have hx10 := bt_at a0 x3_1;replace p10 := eq_true p10;replace q10 := eq_true q10;have p12 : 0 ≤ (x3_1 : Int) := of_decide_eq_true (by assumption);have q12 : x3_1 < (a0.size : Int) := of_decide_eq_true (by assumption);have hx12 := bt_at a0 x3_1;replace p12 := eq_true p12;replace q12 := eq_true q12;have p14 : 0 ≤ (x3_1 : Int) := of_decide_eq_true (by assumption);have q14 : x3_1 < (a0.size : Int) := of_decide_eq_true (by assumption);have hx14 := bt_at a0 x3_1;replace p14 := eq_true p14;replace q14 := eq_true q14))
          go_ret
          exact ⟨by first | rfl | (simp;done) | (simp [*];done),by repeat (first | exact Drawn0.refl _ | apply Drawn0.step)⟩
    ·rw [if_neg c3] at H
     exact absurd H (by simp)
   ·rw [if_neg c2] at H
    have c2b0 : decide (x3_1 < (a0.size : Int)) = false := decide_eq_false c2
    clear c2
    by_cases c16 : (a0.size : Int) ≥ 1
    ·rw [if_pos c16] at H
     have c16b0 : decide (1 ≤ (a0.size : Int)) = true := decide_eq_true c16
     have c16b1 : decide (1 ≤ a0.size) = true := decide_eq_true (by omega)
     clear c16
     obtain rfl := Option.some.inj H
     go_wp2
     go_ret
     exact ⟨by first | rfl | (simp;done) | (simp [*];done),by repeat (first | exact Drawn0.refl _ | apply Drawn0.step)⟩
    ·rw [if_neg c16] at H
     have c16b0 : decide (1 ≤ (a0.size : Int)) = false := decide_eq_false c16
     have c16b1 : decide (1 ≤ a0.size) = false := decide_eq_false (by omega)
     clear c16
     obtain rfl := Option.some.inj H
     go_wp2
     go_ret
     exact ⟨by first | rfl | (simp;done) | (simp [*];done),by repeat (first | exact Drawn0.refl _ | apply Drawn0.step)⟩
def qjk.f (a0 : Int) (a1 : Int) : Option (Int) := if a0 < a1 then (some (-1)) else (if a0 > a1 then (some 1) else (some 0))
set_option maxHeartbeats 8000000 in
set_option maxRecDepth 100000 in
theorem qjk.calls (a0 : Int) (a1 : Int) (r : Int) (w : World) (h : qjk.f a0 a1 = some r) :
  Calls Try.prog 68 #[.int .i64 a0,.int .i64 a1] w fun e w' => e = .returned (.int .i64 r) ∧ Drawn0 w w' := by
 have H : (if a0 < a1 then (some (-1)) else (if a0 > a1 then (some 1) else (some 0))) = some r := h
 clear h
 by_cases c3 : a0 < a1
 ·rw [if_pos c3] at H
  have c3b0 : decide (a0 < a1) = true := decide_eq_true c3
  clear c3
  obtain rfl := Option.some.inj H
  go_enter Try.func68,Try.ntmps68
  go_wp2
  go_ret
  exact ⟨by first | rfl | (simp;done) | (simp [*];done),by repeat (first | exact Drawn0.refl _ | apply Drawn0.step)⟩
 ·rw [if_neg c3] at H
  have c3b0 : decide (a0 < a1) = false := decide_eq_false c3
  clear c3
  by_cases c4 : a0 > a1
  ·rw [if_pos c4] at H
   have c4b0 : decide (a1 < a0) = true := decide_eq_true c4
   clear c4
   obtain rfl := Option.some.inj H
   go_enter Try.func68,Try.ntmps68
   go_wp2
   go_ret
   exact ⟨by first | rfl | (simp;done) | (simp [*];done),by repeat (first | exact Drawn0.refl _ | apply Drawn0.step)⟩
  ·rw [if_neg c4] at H
   have c4b0 : decide (a1 < a0) = false := decide_eq_false c4
   clear c4
   obtain rfl := Option.some.inj H
   go_enter Try.func68,Try.ntmps68
   go_wp2
   go_ret
   exact ⟨by first | rfl | (simp;done) | (simp [*];done),by repeat (first | exact Drawn0.refl _ | apply Drawn0.step)⟩
mutual
def qjv.l0 : Nat → ByteArray → ByteArray → Int → Option (Int)
 | 0,_,_,_ => none
 | k + 1,x0,x1,x5 => if x5 < (x0.size : Int) then (qjv.j1 k x0 x1 x5 (decide (x5 < (x1.size : Int)))) else (qjv.j1 k x0 x1 x5 false)
def qjv.j1 : Nat → ByteArray → ByteArray → Int → Bool → Option (Int)
 | 0,_,_,_,_ => none
 | k + 1,x0,x1,x5,x15 => if x15 = true then (if 0 ≤ x5 then (if x5 < (x0.size : Int) then (if x5 < (x1.size : Int) then (if (bt x0 x5) = (bt x1 x5) then (qjv.l0 k x0 x1 (wrap64 (x5 + 1))) else ((qjk.f (wrap64 (bt x0 x5)) (wrap64 (bt x1 x5))).bind fun t101 => (some t101))) else (none)) else (none)) else (none)) else ((qjk.f (x0.size : Int) (x1.size : Int)).bind fun t102 => (some t102))
end
def qjv.f (k : Nat) (a0 : ByteArray) (a1 : ByteArray) : Option (Int) := qjv.l0 k a0 a1 0
set_option maxHeartbeats 8000000 in
set_option maxRecDepth 100000 in
theorem qjv.calls (k : Nat) (a0 : ByteArray) (a1 : ByteArray) (r : Int) (w : World) (h : qjv.f k a0 a1 = some r) :
  Calls Try.prog 38 #[.string a0,.string a1] w fun e w' => e = .returned (.int .i64 r) ∧ Drawn0 w w' := by
 have H : (qjv.l0 k a0 a1 0) = some r := h
 clear h
 have H' := qq.mk H
 clear H
 go_enter Try.func38,Try.ntmps38
 go_wp2
 repeat (go_quiet (fail);try go_wp2)
 go_loopg [5] k (fun kq v5 w' => ∃ (x5_1 : Int),v5 = .int .i64 x5_1 ∧ qq (qjv.l0 kq a0 a1 x5_1 = some r) ∧ qq (kq ≤ k) ∧ Drawn0 w w')
 case atStart => exact ⟨(0),(by first | rfl | (simp;done) | (simp [*];done)),H',⟨Nat.le_refl _⟩,by repeat (first | exact Drawn0.refl _ | apply Drawn0.step)⟩
 case round =>
  clear H'
  try clear p2
  obtain ⟨x5_1,rfl,HA,HK1,⟨m1,rfl⟩⟩ := hrel
  cases gk with
  | zero => exact absurd HA.out (by simp [qjv.l0])
  | succ k1 =>
   have H := HA.out
   clear HA
   simp only [qjv.l0] at H
   have HC3 := qq.mk H
   clear H
   go_upto_region 2 with (fail)
   repeat (go_quiet (fail);go_upto_region 2 with (fail))
   go_cut [15] (fun v15 wc => ∃ (kq : Nat) (x15_2 : Bool),v15 = .bool x15_2 ∧ qq (qjv.j1 kq a0 a1 x5_1 x15_2 = some r) ∧ qq (kq ≤ k1) ∧ Drawn0 w wc)
   case first =>
    have H := HC3.out
    clear HC3
    by_cases c4 : x5_1 < (a0.size : Int)
    ·rw [if_pos c4] at H
     have c4b0 : decide (x5_1 < (a0.size : Int)) = true := decide_eq_true c4
     clear c4
     (first | rw [c4b0] | (simp only [i64_w,i32_w];rw [c4b0]) | skip)
     have H' := qq.mk H
     clear H
     go_wp2
     repeat (go_quiet (fail);try go_wp2)
     go_meet
     case rel => exact ⟨_,(decide (x5_1 < (a1.size : Int))),(by first | rfl | (simp;done) | (simp [*];done)),H',⟨by have := HK1.out;first | omega | exact Nat.le_refl _⟩,by repeat (first | exact Drawn0.refl _ | apply Drawn0.step)⟩
    ·rw [if_neg c4] at H
     have c4b0 : decide (x5_1 < (a0.size : Int)) = false := decide_eq_false c4
     clear c4
     (first | rw [c4b0] | (simp only [i64_w,i32_w];rw [c4b0]) | skip)
     have H' := qq.mk H
     clear H
     go_wp2
     repeat (go_quiet (fail);try go_wp2)
     go_meet
     case rel => exact ⟨_,(false),(by first | rfl | (simp;done) | (simp [*];done)),H',⟨by have := HK1.out;first | omega | exact Nat.le_refl _⟩,by repeat (first | exact Drawn0.refl _ | apply Drawn0.step)⟩
   case rest =>
    clear HC3
    try clear p2
    try clear c3
    try clear c4
    try clear c4b0
    try clear p2
    obtain ⟨kq,x15_2,rfl,HA,HJ2,⟨mc2,rfl⟩⟩ := hcut
    cases kq with
    | zero => exact absurd HA.out (by simp [qjv.j1])
    | succ kj2 =>
     have H := HA.out
     clear HA
     simp only [qjv.j1] at H
     by_cases c5 : x15_2 = true
     ·subst c5
      have H1 : (if 0 ≤ x5_1 then (if x5_1 < (a0.size : Int) then (if x5_1 < (a1.size : Int) then (if (bt a0 x5_1) = (bt a1 x5_1) then (qjv.l0 kj2 a0 a1 (wrap64 (x5_1 + 1))) else ((qjk.f (wrap64 (bt a0 x5_1)) (wrap64 (bt a1 x5_1))).bind fun t101 => (some t101))) else (none)) else (none)) else (none)) = some r := by rw [if_pos rfl] at H;exact H
      clear H
      have H := H1
      clear H1
      by_cases c6 : 0 ≤ x5_1
      ·rw [if_pos c6] at H
       have c6b0 : decide (0 ≤ x5_1) = true := decide_eq_true c6
       clear c6
       by_cases c7 : x5_1 < (a0.size : Int)
       ·rw [if_pos c7] at H
        have c7b0 : decide (x5_1 < (a0.size : Int)) = true := decide_eq_true c7
        clear c7
        by_cases c9 : x5_1 < (a1.size : Int)
        ·rw [if_pos c9] at H
         have c9b0 : decide (x5_1 < (a1.size : Int)) = true := decide_eq_true c9
         clear c9
         by_cases c11 : (bt a0 x5_1) = (bt a1 x5_1)
         ·rw [if_pos c11] at H
          have c11b0 : ((bt a0 x5_1) == (bt a1 x5_1)) = true := beq_iff_eq.mpr c11
          have c11b1 : ((bt a0 x5_1) != (bt a1 x5_1)) = false := bne_eq_false_iff_eq.mpr c11
          clear c11
          have H' := qq.mk H
          clear H
          have p8 : 0 ≤ (x5_1 : Int) := of_decide_eq_true (by assumption)
          have q8 : x5_1 < (a0.size : Int) := of_decide_eq_true (by assumption)
          have hx8 := bt_at a0 x5_1
          replace p8 := eq_true p8
          replace q8 := eq_true q8
          have p10 : 0 ≤ (x5_1 : Int) := of_decide_eq_true (by assumption)
          have q10 : x5_1 < (a1.size : Int) := of_decide_eq_true (by assumption)
          have hx10 := bt_at a1 x5_1
          replace p10 := eq_true p10
          replace q10 := eq_true q10
          go_wp2
          repeat (go_quiet (fail);try go_wp2)
          go_roundg kj2
          case measure => have := HK1.out;have := HJ2.out;omega
          case rel => exact ⟨(wrap64 (x5_1 + 1)),(by first | rfl | (simp;done) | (simp [*];done)),H',⟨by have := HK1.out;have := HJ2.out;omega⟩,by repeat (first | exact Drawn0.refl _ | apply Drawn0.step)⟩
         ·rw [if_neg c11] at H
          have c11b0 : ((bt a0 x5_1) == (bt a1 x5_1)) = false := beq_eq_false_iff_ne.mpr c11
          have c11b1 : ((bt a0 x5_1) != (bt a1 x5_1)) = true := bne_iff_ne.mpr c11
          replace H := Option.bind_eq_some_iff.mp H
          obtain ⟨t101,A140,H⟩ := H
          replace H : (some t101) = some r := H
          have A14 := qq.mk A140
          clear A140
          obtain rfl := Option.some.inj H
          have p8 : 0 ≤ (x5_1 : Int) := of_decide_eq_true (by assumption)
          have q8 : x5_1 < (a0.size : Int) := of_decide_eq_true (by assumption)
          have hx8 := bt_at a0 x5_1
          replace p8 := eq_true p8
          replace q8 := eq_true q8
          have p10 : 0 ≤ (x5_1 : Int) := of_decide_eq_true (by assumption)
          have q10 : x5_1 < (a1.size : Int) := of_decide_eq_true (by assumption)
          have hx10 := bt_at a1 x5_1
          replace p10 := eq_true p10
          replace q10 := eq_true q10
          have p12 : 0 ≤ (x5_1 : Int) := of_decide_eq_true (by assumption)
          have q12 : x5_1 < (a0.size : Int) := of_decide_eq_true (by assumption)
          have hx12 := bt_at a0 x5_1
          replace p12 := eq_true p12
          replace q12 := eq_true q12
          have p13 : 0 ≤ (x5_1 : Int) := of_decide_eq_true (by assumption)
          have q13 : x5_1 < (a1.size : Int) := of_decide_eq_true (by assumption)
          have hx13 := bt_at a1 x5_1
          replace p13 := eq_true p13
          replace q13 := eq_true q13
          go_wp2_with (first | (go_at_call 68;(with_reducible refine (qjk.calls (wrap64 (bt a0 x5_1)) (wrap64 (bt a1 x5_1)) t101 _ A14.out).mono ?_);rintro e w' ⟨rfl,⟨nd,rfl⟩⟩;(try first | exact ⟨rfl,_,World.drewN_drewN _ _ _⟩ | exact ⟨rfl,_,Eq.trans (World.drewN_drewN _ _ _) (congrArg (World.drewN _) (Nat.add_assoc _ _ _))⟩)))
          repeat (go_quiet (first | (go_at_call 68;(with_reducible refine (qjk.calls (wrap64 (bt a0 x5_1)) (wrap64 (bt a1 x5_1)) t101 _ A14.out).mono ?_);rintro e w' ⟨rfl,⟨nd,rfl⟩⟩;(try first | exact ⟨rfl,_,World.drewN_drewN _ _ _⟩ | exact ⟨rfl,_,Eq.trans (World.drewN_drewN _ _ _) (congrArg (World.drewN _) (Nat.add_assoc _ _ _))⟩)));try go_wp2_with (first | (go_at_call 68;(with_reducible refine (qjk.calls (wrap64 (bt a0 x5_1)) (wrap64 (bt a1 x5_1)) t101 _ A14.out).mono ?_);rintro e w' ⟨rfl,⟨nd,rfl⟩⟩;(try first | exact ⟨rfl,_,World.drewN_drewN _ _ _⟩ | exact ⟨rfl,_,Eq.trans (World.drewN_drewN _ _ _) (congrArg (World.drewN _) (Nat.add_assoc _ _ _))⟩))))
          go_ret
          exact ⟨by first | rfl | (simp;done) | (simp [*];done),by repeat (first | exact Drawn0.refl _ | apply Drawn0.step)⟩
        ·rw [if_neg c9] at H
         exact absurd H (by simp)
       ·rw [if_neg c7] at H
        exact absurd H (by simp)
      ·rw [if_neg c6] at H
       exact absurd H (by simp)
     ·replace c5 := Bool.eq_false_iff.mpr c5
      subst c5
      have H1 : ((qjk.f (a0.size : Int) (a1.size : Int)).bind fun t102 => (some t102)) = some r := by rw [if_neg (show ¬ (false = true) by decide)] at H;exact H
      clear H
      have H := H1
      clear H1
      replace H := Option.bind_eq_some_iff.mp H
      obtain ⟨t102,A150,H⟩ := H
      replace H : (some t102) = some r := H
      have A15 := qq.mk A150
      clear A150
      obtain rfl := Option.some.inj H
      go_wp2_with (first | (go_at_call 68;(with_reducible refine (qjk.calls (a0.size : Int) (a1.size : Int) t102 _ A15.out).mono ?_);rintro e w' ⟨rfl,⟨nd,rfl⟩⟩;(try first | exact ⟨rfl,_,World.drewN_drewN _ _ _⟩ | exact ⟨rfl,_,Eq.trans (World.drewN_drewN _ _ _) (congrArg (World.drewN _) (Nat.add_assoc _ _ _))⟩)))
      repeat (go_quiet (first | (go_at_call 68;(with_reducible refine (qjk.calls (a0.size : Int) (a1.size : Int) t102 _ A15.out).mono ?_);rintro e w' ⟨rfl,⟨nd,rfl⟩⟩;(try first | exact ⟨rfl,_,World.drewN_drewN _ _ _⟩ | exact ⟨rfl,_,Eq.trans (World.drewN_drewN _ _ _) (congrArg (World.drewN _) (Nat.add_assoc _ _ _))⟩)));try go_wp2_with (first | (go_at_call 68;(with_reducible refine (qjk.calls (a0.size : Int) (a1.size : Int) t102 _ A15.out).mono ?_);rintro e w' ⟨rfl,⟨nd,rfl⟩⟩;(try first | exact ⟨rfl,_,World.drewN_drewN _ _ _⟩ | exact ⟨rfl,_,Eq.trans (World.drewN_drewN _ _ _) (congrArg (World.drewN _) (Nat.add_assoc _ _ _))⟩))))
      go_ret
      exact ⟨by first | rfl | (simp;done) | (simp [*];done),by repeat (first | exact Drawn0.refl _ | apply Drawn0.step)⟩
end Go.Proofs.Ytakocdkcfjkmdaa.Pr
namespace Go.Proofs.Ytakocdkcfjkmdaa.Pr
open Go.RowKit Go.Proofs.YtakocdkcfjkmdaaW.PrintWords Go.Proofs.YtakocdkcfjkmdaaW.PrintLast Go.Proofs.YtakocdkcfjkmdaaW.PrintMore
attribute [local go_sem] max2_int min2_int max_two min_two max_three min_three max_four min_four
set_option linter.unusedVariables false
set_option linter.unusedSimpArgs false
mutual
def qjq.j0 : Nat → ByteArray → Bool → Option (Bool)
 | 0,_,_ => none
 | k + 1,x0,x16 => if x16 = true then (some false) else (qjq.l0 k x0 0)
def qjq.l0 : Nat → ByteArray → Int → Option (Bool)
 | 0,_,_ => none
 | k + 1,x0,x3 => if x3 < (x0.size : Int) then (if 0 ≤ x3 then ((qjx.f (bt x0 x3)).bind fun t102 => (if t102 = true then (qjq.l0 k x0 (wrap64 (x3 + 1))) else ((qjw.f (bt x0 x3)).bind fun t103 => (if t103 = true then (qjq.l0 k x0 (wrap64 (x3 + 1))) else (if (bt x0 x3) = 95 then (qjq.l0 k x0 (wrap64 (x3 + 1))) else (some false)))))) else (none)) else (some true)
end
def qjq.f (k : Nat) (a0 : ByteArray) : Option (Bool) := if (a0.size : Int) < 1 then (qjq.j0 k a0 true) else (if (a0.size : Int) > 30 then (qjq.j0 k a0 true) else (if 0 < (a0.size : Int) then ((qjw.f (bt a0 0)).bind fun t101 => (qjq.j0 k a0 t101)) else (none)))
set_option maxHeartbeats 8000000 in
set_option maxRecDepth 100000 in
theorem qjq.calls (k : Nat) (a0 : ByteArray) (r : Bool) (w : World) (h : qjq.f k a0 = some r) :
  Calls Try.prog 73 #[.string a0] w fun e w' => e = .returned (.bool r) ∧ Drawn0 w w' := by
 have H : (if (a0.size : Int) < 1 then (qjq.j0 k a0 true) else (if (a0.size : Int) > 30 then (qjq.j0 k a0 true) else (if 0 < (a0.size : Int) then ((qjw.f (bt a0 0)).bind fun t101 => (qjq.j0 k a0 t101)) else (none)))) = some r := h
 clear h
 have HC2 := qq.mk H
 clear H
 go_enter Try.func73,Try.ntmps73
 go_upto_region 1 with (fail)
 go_cut [16] (fun v16 wc => ∃ (kq : Nat) (x16_1 : Bool),v16 = .bool x16_1 ∧ qq (qjq.j0 kq a0 x16_1 = some r) ∧ qq (kq ≤ k) ∧ Drawn0 w wc)
 case first =>
  have H := HC2.out
  clear HC2
  by_cases c3 : (a0.size : Int) < 1
  ·rw [if_pos c3] at H
   have c3b0 : decide ((a0.size : Int) < 1) = true := decide_eq_true c3
   have c3b1 : decide (a0.size < 1) = true := decide_eq_true (by omega)
   clear c3
   (first | rw [c3b0] | (simp only [i64_w,i32_w];rw [c3b0]) | skip)
   have H' := qq.mk H
   clear H
   go_wp2
   go_meet
   case rel => exact ⟨_,(true),(by first | rfl | (simp;done) | (simp [*];done)),H',⟨by first | omega | exact Nat.le_refl _⟩,by repeat (first | exact Drawn0.refl _ | apply Drawn0.step)⟩
  ·rw [if_neg c3] at H
   have c3b0 : decide ((a0.size : Int) < 1) = false := decide_eq_false c3
   have c3b1 : decide (a0.size < 1) = false := decide_eq_false (by omega)
   clear c3
   (first | rw [c3b0] | (simp only [i64_w,i32_w];rw [c3b0]) | skip)
   by_cases c4 : (a0.size : Int) > 30
   ·rw [if_pos c4] at H
    have c4b0 : decide (30 < (a0.size : Int)) = true := decide_eq_true c4
    have c4b1 : decide (30 < a0.size) = true := decide_eq_true (by omega)
    clear c4
    have H' := qq.mk H
    clear H
    go_wp2
    go_meet
    case rel => exact ⟨_,(true),(by first | rfl | (simp;done) | (simp [*];done)),H',⟨by first | omega | exact Nat.le_refl _⟩,by repeat (first | exact Drawn0.refl _ | apply Drawn0.step)⟩
   ·rw [if_neg c4] at H
    have c4b0 : decide (30 < (a0.size : Int)) = false := decide_eq_false c4
    have c4b1 : decide (30 < a0.size) = false := decide_eq_false (by omega)
    clear c4
    by_cases c5 : 0 < (a0.size : Int)
    ·rw [if_pos c5] at H
     have c5b0 : decide (0 < (a0.size : Int)) = true := decide_eq_true c5
     have c5b1 : decide (0 < a0.size) = true := decide_eq_true (by omega)
     clear c5
     replace H := Option.bind_eq_some_iff.mp H
     obtain ⟨t101,A70,H⟩ := H
     replace H : (qjq.j0 k a0 t101) = some r := H
     have A7 := qq.mk A70
     clear A70
     have H' := qq.mk H
     clear H
     have p6 : 0 ≤ (0 : Int) := (by omega)
     have q6 : 0 < a0.size := (by have : (0 : Int) < (a0.size : Int) := of_decide_eq_true (by assumption);omega)
     have hx6 : ∀ h : 0 < a0.size,((a0[0]'h).toNat : Int) = bt a0 0 := bt_at a0 0
     clear p6
     have qi6 : (0 < (a0.size : Int)) = True := eq_true (of_decide_eq_true (by assumption))
     replace q6 := eq_true q6
     go_wp2_with (first | (go_at_call 67;(with_reducible refine (qjw.calls (bt a0 0) t101 _ A7.out).mono ?_);rintro e w' ⟨rfl,⟨nd,rfl⟩⟩))
     go_meet
     case rel => exact ⟨_,(t101),(by first | rfl | (simp;done) | (simp [*];done)),H',⟨by first | omega | exact Nat.le_refl _⟩,by repeat (first | exact Drawn0.refl _ | apply Drawn0.step)⟩
    ·rw [if_neg c5] at H
     exact absurd H (by simp)
 case rest =>
  clear HC2
  try clear p2
  try clear c3
  try clear c3b0
  try clear c3b1
  try clear c4
  try clear c4b0
  try clear c4b1
  try clear c5
  try clear c5b0
  try clear c5b1
  try clear p6
  try clear q6
  try clear hx6
  try clear qi6
  try clear c7
  try clear p6
  try clear q6
  obtain ⟨kq,x16_1,rfl,HA,HJ1,⟨mc1,rfl⟩⟩ := hcut
  cases kq with
  | zero => exact absurd HA.out (by simp [qjq.j0])
  | succ kj1 =>
   have H := HA.out
   clear HA
   simp only [qjq.j0] at H
   by_cases c8 : x16_1 = true
   ·subst c8
    have H1 : (some false) = some r := by rw [if_pos rfl] at H;exact H
    clear H
    have H := H1
    clear H1
    obtain rfl := Option.some.inj H
    go_wp2
    go_ret
    exact ⟨by first | rfl | (simp;done) | (simp [*];done),by repeat (first | exact Drawn0.refl _ | apply Drawn0.step)⟩
   ·replace c8 := Bool.eq_false_iff.mpr c8
    subst c8
    have H1 : (qjq.l0 kj1 a0 0) = some r := by rw [if_neg (show ¬ (false = true) by decide)] at H;exact H
    clear H
    have H := H1
    clear H1
    have H' := qq.mk H
    clear H
    go_wp2
    go_loopg [3] kj1 (fun kq v3 w' => ∃ (x3_2 : Int),v3 = .int .i64 x3_2 ∧ qq (qjq.l0 kq a0 x3_2 = some r) ∧ qq (kq ≤ kj1) ∧ Drawn0 w w')
    case atStart => exact ⟨(0),(by first | rfl | (simp;done) | (simp [*];done)),H',⟨Nat.le_refl _⟩,by repeat (first | exact Drawn0.refl _ | apply Drawn0.step)⟩
    case round =>
     clear H'
     try clear c1
     try clear p2
     try clear c3
     try clear c3b0
     try clear c3b1
     try clear c4
     try clear c4b0
     try clear c4b1
     try clear c5
     try clear c5b0
     try clear c5b1
     try clear p6
     try clear q6
     try clear hx6
     try clear qi6
     try clear c7
     try clear c8
     try clear p2
     try clear p6
     try clear q6
     obtain ⟨x3_2,rfl,HA,HK2,⟨m2,rfl⟩⟩ := hrel
     cases gk with
     | zero => exact absurd HA.out (by simp [qjq.l0])
     | succ k2 =>
      have H := HA.out
      clear HA
      simp only [qjq.l0] at H
      by_cases c9 : x3_2 < (a0.size : Int)
      ·rw [if_pos c9] at H
       have c9b0 : decide (x3_2 < (a0.size : Int)) = true := decide_eq_true c9
       clear c9
       by_cases c10 : 0 ≤ x3_2
       ·rw [if_pos c10] at H
        have c10b0 : decide (0 ≤ x3_2) = true := decide_eq_true c10
        clear c10
        replace H := Option.bind_eq_some_iff.mp H
        obtain ⟨t102,A120,H⟩ := H
        replace H : (if t102 = true then (qjq.l0 k2 a0 (wrap64 (x3_2 + 1))) else ((qjw.f (bt a0 x3_2)).bind fun t103 => (if t103 = true then (qjq.l0 k2 a0 (wrap64 (x3_2 + 1))) else (if (bt a0 x3_2) = 95 then (qjq.l0 k2 a0 (wrap64 (x3_2 + 1))) else (some false))))) = some r := H
        have A12 := qq.mk A120
        clear A120
        by_cases c13 : t102 = true
        ·subst c13
         have H1 : (qjq.l0 k2 a0 (wrap64 (x3_2 + 1))) = some r := by rw [if_pos rfl] at H;exact H
         clear H
         have H := H1
         clear H1
         have H' := qq.mk H
         clear H
         have p11 : 0 ≤ (x3_2 : Int) := of_decide_eq_true (by assumption)
         have q11 : x3_2 < (a0.size : Int) := of_decide_eq_true (by assumption)
         have hx11 := bt_at a0 x3_2
         replace p11 := eq_true p11
         replace q11 := eq_true q11
         go_wp2_with (first | ((with_reducible refine jv (f := 66) rfl ?_);refine goesL_ (some 26) rfl rfl Try.func66 (by kernel_rfl) rfl #[.int .u8 (bt a0 x3_2)] rfl (by (try simp only [List.map_toArray,List.map_cons,List.map_nil]);first | done | rfl | (simp only [List.length_drop,List.length_take];rfl)) ?_;(with_reducible refine (qjx.calls (bt a0 x3_2) true _ A12.out).mono ?_);rintro e w' ⟨rfl,⟨nd,rfl⟩⟩;refine ⟨_,rfl,?_⟩))
         go_roundg k2
         case measure => have := HJ1.out;have := HK2.out;omega
         case rel => exact ⟨(wrap64 (x3_2 + 1)),(by first | rfl | (simp;done) | (simp [*];done)),H',⟨by have := HJ1.out;have := HK2.out;omega⟩,by repeat (first | exact Drawn0.refl _ | apply Drawn0.step)⟩
        ·replace c13 := Bool.eq_false_iff.mpr c13
         subst c13
         have H1 : ((qjw.f (bt a0 x3_2)).bind fun t103 => (if t103 = true then (qjq.l0 k2 a0 (wrap64 (x3_2 + 1))) else (if (bt a0 x3_2) = 95 then (qjq.l0 k2 a0 (wrap64 (x3_2 + 1))) else (some false)))) = some r := by rw [if_neg (show ¬ (false = true) by decide)] at H;exact H
         clear H
         have H := H1
         clear H1
         replace H := Option.bind_eq_some_iff.mp H
         obtain ⟨t103,A150,H⟩ := H
         replace H : (if t103 = true then (qjq.l0 k2 a0 (wrap64 (x3_2 + 1))) else (if (bt a0 x3_2) = 95 then (qjq.l0 k2 a0 (wrap64 (x3_2 + 1))) else (some false))) = some r := H
         have A15 := qq.mk A150
         clear A150
         by_cases c16 : t103 = true
         ·subst c16
          have H1 : (qjq.l0 k2 a0 (wrap64 (x3_2 + 1))) = some r := by rw [if_pos rfl] at H;exact H
          clear H
          have H := H1
          clear H1
          have H' := qq.mk H
          clear H
          have p11 : 0 ≤ (x3_2 : Int) := of_decide_eq_true (by assumption)
          have q11 : x3_2 < (a0.size : Int) := of_decide_eq_true (by assumption)
          have hx11 := bt_at a0 x3_2
          replace p11 := eq_true p11
          replace q11 := eq_true q11
          go_wp2_with (first | ((with_reducible refine jv (f := 66) rfl ?_);refine goesL_ (some 26) rfl rfl Try.func66 (by kernel_rfl) rfl #[.int .u8 (bt a0 x3_2)] rfl (by (try simp only [List.map_toArray,List.map_cons,List.map_nil]);first | done | rfl | (simp only [List.length_drop,List.length_take];rfl)) ?_;(with_reducible refine (qjx.calls (bt a0 x3_2) false _ A12.out).mono ?_);rintro e w' ⟨rfl,⟨nd,rfl⟩⟩;refine ⟨_,rfl,?_⟩;have p14 : 0 ≤ (x3_2 : Int) := of_decide_eq_true (by assumption);have q14 : x3_2 < (a0.size : Int) := of_decide_eq_true (by assumption);have hx14 := bt_at a0 x3_2;replace p14 := eq_true p14;replace q14 := eq_true q14) | (go_at_call 67;(with_reducible refine (qjw.calls (bt a0 x3_2) true _ A15.out).mono ?_);rintro e w' ⟨rfl,⟨nd,rfl⟩⟩))
          go_roundg k2
          case measure => have := HJ1.out;have := HK2.out;omega
          case rel => exact ⟨(wrap64 (x3_2 + 1)),(by first | rfl | (simp;done) | (simp [*];done)),H',⟨by have := HJ1.out;have := HK2.out;omega⟩,by repeat (first | exact Drawn0.refl _ | apply Drawn0.step)⟩
         ·replace c16 := Bool.eq_false_iff.mpr c16
          subst c16
          have H1 : (if (bt a0 x3_2) = 95 then (qjq.l0 k2 a0 (wrap64 (x3_2 + 1))) else (some false)) = some r := by rw [if_neg (show ¬ (false = true) by decide)] at H;exact H
          clear H
          have H := H1
          clear H1
          by_cases c18 : (bt a0 x3_2) = 95
          ·rw [if_pos c18] at H
           have c18b0 : ((bt a0 x3_2) == 95) = true := beq_iff_eq.mpr c18
           have c18b1 : ((bt a0 x3_2) != 95) = false := bne_eq_false_iff_eq.mpr c18
           clear c18
           have H' := qq.mk H
           clear H
           have p11 : 0 ≤ (x3_2 : Int) := of_decide_eq_true (by assumption)
           have q11 : x3_2 < (a0.size : Int) := of_decide_eq_true (by assumption)
           have hx11 := bt_at a0 x3_2
           replace p11 := eq_true p11
           replace q11 := eq_true q11
           go_wp2_with (first | ((with_reducible refine jv (f := 66) rfl ?_);refine goesL_ (some 26) rfl rfl Try.func66 (by kernel_rfl) rfl #[.int .u8 (bt a0 x3_2)] rfl (by (try simp only [List.map_toArray,List.map_cons,List.map_nil]);first | done | rfl | (simp only [List.length_drop,List.length_take];rfl)) ?_;(with_reducible refine (qjx.calls (bt a0 x3_2) false _ A12.out).mono ?_);rintro e w' ⟨rfl,⟨nd,rfl⟩⟩;refine ⟨_,rfl,?_⟩;have p14 : 0 ≤ (x3_2 : Int) := of_decide_eq_true (by assumption);have q14 : x3_2 < (a0.size : Int) := of_decide_eq_true (by assumption);have hx14 := bt_at a0 x3_2;replace p14 := eq_true p14;replace q14 := eq_true q14) | (go_at_call 67;(with_reducible refine (qjw.calls (bt a0 x3_2) false _ A15.out).mono ?_);rintro e w' ⟨rfl,⟨nd,rfl⟩⟩;have p17 : 0 ≤ (x3_2 : Int) := of_decide_eq_true (by assumption);have q17 : x3_2 < (a0.size : Int) := of_decide_eq_true (by assumption);have hx17 := bt_at a0 x3_2;replace p17 := eq_true p17;replace q17 := eq_true q17))
           go_roundg k2
           case measure => have := HJ1.out;have := HK2.out;omega
           case rel => exact ⟨(wrap64 (x3_2 + 1)),(by first | rfl | (simp;done) | (simp [*];done)),H',⟨by have := HJ1.out;have := HK2.out;omega⟩,by repeat (first | exact Drawn0.refl _ | apply Drawn0.step)⟩
          ·rw [if_neg c18] at H
           have c18b0 : ((bt a0 x3_2) == 95) = false := beq_eq_false_iff_ne.mpr c18
           have c18b1 : ((bt a0 x3_2) != 95) = true := bne_iff_ne.mpr c18
           obtain rfl := Option.some.inj H
           have p11 : 0 ≤ (x3_2 : Int) := of_decide_eq_true (by assumption)
           have q11 : x3_2 < (a0.size : Int) := of_decide_eq_true (by assumption)
           have hx11 := bt_at a0 x3_2
           replace p11 := eq_true p11
           replace q11 := eq_true q11
           go_wp2_with (first | ((with_reducible refine jv (f := 66) rfl ?_);refine goesL_ (some 26) rfl rfl Try.func66 (by kernel_rfl) rfl #[.int .u8 (bt a0 x3_2)] rfl (by (try simp only [List.map_toArray,List.map_cons,List.map_nil]);first | done | rfl | (simp only [List.length_drop,List.length_take];rfl)) ?_;(with_reducible refine (qjx.calls (bt a0 x3_2) false _ A12.out).mono ?_);rintro e w' ⟨rfl,⟨nd,rfl⟩⟩;refine ⟨_,rfl,?_⟩;have p14 : 0 ≤ (x3_2 : Int) := of_decide_eq_true (by assumption);have q14 : x3_2 < (a0.size : Int) := of_decide_eq_true (by assumption);have hx14 := bt_at a0 x3_2;replace p14 := eq_true p14;replace q14 := eq_true q14) | (go_at_call 67;(with_reducible refine (qjw.calls (bt a0 x3_2) false _ A15.out).mono ?_);rintro e w' ⟨rfl,⟨nd,rfl⟩⟩;have p17 : 0 ≤ (x3_2 : Int) := of_decide_eq_true (by assumption);have q17 : x3_2 < (a0.size : Int) := of_decide_eq_true (by assumption);have hx17 := bt_at a0 x3_2;replace p17 := eq_true p17;replace q17 := eq_true q17))
           go_ret
           exact ⟨by first | rfl | (simp;done) | (simp [*];done),by repeat (first | exact Drawn0.refl _ | apply Drawn0.step)⟩
       ·rw [if_neg c10] at H
        exact absurd H (by simp)
      ·rw [if_neg c9] at H
       have c9b0 : decide (x3_2 < (a0.size : Int)) = false := decide_eq_false c9
       clear c9
       obtain rfl := Option.some.inj H
       go_wp2
       go_ret
       exact ⟨by first | rfl | (simp;done) | (simp [*];done),by repeat (first | exact Drawn0.refl _ | apply Drawn0.step)⟩
end Go.Proofs.Ytakocdkcfjkmdaa.Pr
namespace Go.Proofs.Ytakocdkcfjkmdaa.Pr
open Go.RowKit Go.Proofs.YtakocdkcfjkmdaaW.PrintWords Go.Proofs.YtakocdkcfjkmdaaW.PrintLast Go.Proofs.YtakocdkcfjkmdaaW.PrintMore
attribute [local go_sem] max2_int min2_int max_two min_two max_three min_three max_four min_four
set_option linter.unusedVariables false
set_option linter.unusedSimpArgs false
def qkz.l0 : Nat → List ByteArray → Int → Option (Bool)
 | 0,_,_ => none
 | k + 1,x0,x3 => if x3 < (x0.length : Int) then (if 0 ≤ (wrap64 (x3 - 1)) then (if (wrap64 (x3 - 1)) < (x0.length : Int) then (if 0 ≤ x3 then ((qjv.f k (rdOf ByteArray.empty x0 (wrap64 (x3 - 1))) (rdOf ByteArray.empty x0 x3)).bind fun t103 => (if t103 ≥ 0 then (some false) else (qkz.l0 k x0 (wrap64 (x3 + 1))))) else (none)) else (none)) else (none)) else (some true)
def qkz.f (k : Nat) (l0 : List ByteArray) : Option (Bool) := qkz.l0 k l0 1
set_option maxHeartbeats 8000000 in
set_option maxRecDepth 100000 in
theorem qkz.calls (k : Nat) (A0 : Option Addr) (c0 : Nat) (l0 : List ByteArray) (r : Bool) (w : World) (hr0 : Kd.C Kd.string w A0 l0.length l0) (hc0 : l0.length ≤ c0) (h : qkz.f k l0 = some r) :
  Calls Try.prog 74 #[.slice A0 l0.length c0] w fun e w' => e = .returned (.bool r) ∧ Drawn0 w w' := by
 have HR0 := qq.mk hr0
 have HC0 := qq.mk hc0
 clear hr0 hc0
 have H : (qkz.l0 k l0 1) = some r := h
 clear h
 have H' := qq.mk H
 clear H
 go_enter Try.func74,Try.ntmps74
 go_wp2
 repeat (go_quiet (fail);try go_wp2)
 go_loopg [3] k (fun kq v3 w' => ∃ (x3_1 : Int),v3 = .int .i64 x3_1 ∧ qq (qkz.l0 kq l0 x3_1 = some r) ∧ qq (kq ≤ k) ∧ Drawn0 w w')
 case atStart => exact ⟨(1),(by first | rfl | (simp;done) | (simp [*];done)),H',⟨Nat.le_refl _⟩,by repeat (first | exact Drawn0.refl _ | apply Drawn0.step)⟩
 case round =>
  clear H'
  obtain ⟨x3_1,rfl,HA,HK1,⟨m1,rfl⟩⟩ := hrel
  cases gk with
  | zero => exact absurd HA.out (by simp [qkz.l0])
  | succ k1 =>
   have H := HA.out
   clear HA
   simp only [qkz.l0] at H
   by_cases c2 : x3_1 < (l0.length : Int)
   ·rw [if_pos c2] at H
    have c2b0 : decide (x3_1 < (l0.length : Int)) = true := decide_eq_true c2
    clear c2
    obtain ⟨ji3,hji3⟩ : ∃ j_ : Int,(wrap64 (x3_1 - 1)) = j_ := ⟨_,rfl⟩
    replace H : (if 0 ≤ (ji3) then (if (ji3) < (l0.length : Int) then (if 0 ≤ x3_1 then ((qjv.f k1 (rdOf ByteArray.empty l0 (ji3)) (rdOf ByteArray.empty l0 x3_1)).bind fun t103 => (if t103 ≥ 0 then (some false) else (qkz.l0 k1 l0 (wrap64 (x3_1 + 1))))) else (none)) else (none)) else (none)) = some r := by first | (rw [hji3] at H;exact H) | (simp only [hji3] at H ⊢;exact H)
    have hji3w : (IntKind.i64.wrap (x3_1 - 1)) = ji3 := (i64_w _).trans hji3
    by_cases c4 : 0 ≤ (ji3)
    ·rw [if_pos c4] at H
     have c4b0 : decide (0 ≤ (ji3)) = true := decide_eq_true c4
     clear c4
     by_cases c5 : (ji3) < (l0.length : Int)
     ·rw [if_pos c5] at H
      have c5b0 : decide ((ji3) < (l0.length : Int)) = true := decide_eq_true c5
      clear c5
      by_cases c6 : 0 ≤ x3_1
      ·rw [if_pos c6] at H
       have c6b0 : decide (0 ≤ x3_1) = true := decide_eq_true c6
       clear c6
       replace H := Option.bind_eq_some_iff.mp H
       obtain ⟨t103,A70,H⟩ := H
       replace H : (if t103 ≥ 0 then (some false) else (qkz.l0 k1 l0 (wrap64 (x3_1 + 1)))) = some r := H
       have A7 := qq.mk A70
       clear A70
       by_cases c8 : t103 ≥ 0
       ·rw [if_pos c8] at H
        have c8b0 : decide (0 ≤ t103) = true := decide_eq_true c8
        clear c8
        obtain rfl := Option.some.inj H
        have p101 : 0 ≤ ((ji3) : Int) := of_decide_eq_true (by assumption)
        have q101 : (ji3) < (l0.length : Int) := of_decide_eq_true (by assumption)
        obtain ⟨ad101,e101,hx101_0⟩ := Kd.at_string HR0.out (ji3) p101 q101
        cases e101
        replace p101 := eq_true p101
        replace q101 := eq_true q101
        have p102 : 0 ≤ (x3_1 : Int) := of_decide_eq_true (by assumption)
        have q102 : x3_1 < (l0.length : Int) := of_decide_eq_true (by assumption)
        obtain ⟨ad102,e102,hx102_0⟩ := Kd.at_string HR0.out x3_1 p102 q102
        obtain rfl : ad101 = ad102 := (by injection e102)
        replace p102 := eq_true p102
        replace q102 := eq_true q102
        go_wp2_with (first | (go_at_call 38;(with_reducible refine (qjv.calls k1 (rdOf ByteArray.empty l0 (ji3)) (rdOf ByteArray.empty l0 x3_1) t103 _ A7.out).mono ?_);rintro e w' ⟨rfl,⟨nd,rfl⟩⟩;(try first | exact ⟨rfl,_,World.drewN_drewN _ _ _⟩ | exact ⟨rfl,_,Eq.trans (World.drewN_drewN _ _ _) (congrArg (World.drewN _) (Nat.add_assoc _ _ _))⟩)))
        repeat (go_quiet (first | (go_at_call 38;(with_reducible refine (qjv.calls k1 (rdOf ByteArray.empty l0 (ji3)) (rdOf ByteArray.empty l0 x3_1) t103 _ A7.out).mono ?_);rintro e w' ⟨rfl,⟨nd,rfl⟩⟩;(try first | exact ⟨rfl,_,World.drewN_drewN _ _ _⟩ | exact ⟨rfl,_,Eq.trans (World.drewN_drewN _ _ _) (congrArg (World.drewN _) (Nat.add_assoc _ _ _))⟩)));try go_wp2_with (first | (go_at_call 38;(with_reducible refine (qjv.calls k1 (rdOf ByteArray.empty l0 (ji3)) (rdOf ByteArray.empty l0 x3_1) t103 _ A7.out).mono ?_);rintro e w' ⟨rfl,⟨nd,rfl⟩⟩;(try first | exact ⟨rfl,_,World.drewN_drewN _ _ _⟩ | exact ⟨rfl,_,Eq.trans (World.drewN_drewN _ _ _) (congrArg (World.drewN _) (Nat.add_assoc _ _ _))⟩))))
        go_ret
        exact ⟨by first | rfl | (simp;done) | (simp only [← hji3] <;> (first | rfl | simp)) | (simp [*];done),by repeat (first | exact Drawn0.refl _ | apply Drawn0.step)⟩
       ·rw [if_neg c8] at H
        have c8b0 : decide (0 ≤ t103) = false := decide_eq_false c8
        clear c8
        have H' := qq.mk H
        clear H
        have p101 : 0 ≤ ((ji3) : Int) := of_decide_eq_true (by assumption)
        have q101 : (ji3) < (l0.length : Int) := of_decide_eq_true (by assumption)
        obtain ⟨ad101,e101,hx101_0⟩ := Kd.at_string HR0.out (ji3) p101 q101
        cases e101
        replace p101 := eq_true p101
        replace q101 := eq_true q101
        have p102 : 0 ≤ (x3_1 : Int) := of_decide_eq_true (by assumption)
        have q102 : x3_1 < (l0.length : Int) := of_decide_eq_true (by assumption)
        obtain ⟨ad102,e102,hx102_0⟩ := Kd.at_string HR0.out x3_1 p102 q102
        obtain rfl : ad101 = ad102 := (by injection e102)
        replace p102 := eq_true p102
        replace q102 := eq_true q102
        go_wp2_with (first | (go_at_call 38;(with_reducible refine (qjv.calls k1 (rdOf ByteArray.empty l0 (ji3)) (rdOf ByteArray.empty l0 x3_1) t103 _ A7.out).mono ?_);rintro e w' ⟨rfl,⟨nd,rfl⟩⟩;(try first | exact ⟨rfl,_,World.drewN_drewN _ _ _⟩ | exact ⟨rfl,_,Eq.trans (World.drewN_drewN _ _ _) (congrArg (World.drewN _) (Nat.add_assoc _ _ _))⟩)))
        repeat (go_quiet (first | (go_at_call 38;(with_reducible refine (qjv.calls k1 (rdOf ByteArray.empty l0 (ji3)) (rdOf ByteArray.empty l0 x3_1) t103 _ A7.out).mono ?_);rintro e w' ⟨rfl,⟨nd,rfl⟩⟩;(try first | exact ⟨rfl,_,World.drewN_drewN _ _ _⟩ | exact ⟨rfl,_,Eq.trans (World.drewN_drewN _ _ _) (congrArg (World.drewN _) (Nat.add_assoc _ _ _))⟩)));try go_wp2_with (first | (go_at_call 38;(with_reducible refine (qjv.calls k1 (rdOf ByteArray.empty l0 (ji3)) (rdOf ByteArray.empty l0 x3_1) t103 _ A7.out).mono ?_);rintro e w' ⟨rfl,⟨nd,rfl⟩⟩;(try first | exact ⟨rfl,_,World.drewN_drewN _ _ _⟩ | exact ⟨rfl,_,Eq.trans (World.drewN_drewN _ _ _) (congrArg (World.drewN _) (Nat.add_assoc _ _ _))⟩))))
        go_roundg k1
        case measure => have := HK1.out;omega
        case rel => exact ⟨(wrap64 (x3_1 + 1)),(by first | rfl | (simp;done) | (simp [*];done)),H',⟨by have := HK1.out;omega⟩,by repeat (first | exact Drawn0.refl _ | apply Drawn0.step)⟩
      ·rw [if_neg c6] at H
       exact absurd H (by simp)
     ·rw [if_neg c5] at H
      exact absurd H (by simp)
    ·rw [if_neg c4] at H
     exact absurd H (by simp)
   ·rw [if_neg c2] at H
    have c2b0 : decide (x3_1 < (l0.length : Int)) = false := decide_eq_false c2
    clear c2
    obtain rfl := Option.some.inj H
    go_wp2
    repeat (go_quiet (fail);try go_wp2)
    go_ret
    exact ⟨by first | rfl | (simp;done) | (simp [*];done),by repeat (first | exact Drawn0.refl _ | apply Drawn0.step)⟩
end Go.Proofs.Ytakocdkcfjkmdaa.Pr
namespace Go.Proofs.Ytakocdkcfjkmdaa.Pr
open Go.RowKit Go.Proofs.YtakocdkcfjkmdaaW.PrintWords Go.Proofs.YtakocdkcfjkmdaaW.PrintLast Go.Proofs.YtakocdkcfjkmdaaW.PrintMore
attribute [local go_sem] max2_int min2_int max_two min_two max_three min_three max_four min_four
set_option linter.unusedVariables false
set_option linter.unusedSimpArgs false
def qjj.l0 : Nat → List ByteArray → List ByteArray → Int → Int → Option (Bool)
 | 0,_,_,_,_ => none
 | k + 1,x0,x5,x6,x7 => if x7 < x6 then (if 0 ≤ x7 then (if x7 < (x5.length : Int) then ((qjq.f k (rdOf ByteArray.empty x5 x7)).bind fun t102 => (if t102 = true then (qjj.l0 k x0 x5 x6 (wrap64 (x7 + 1))) else (some false))) else (none)) else (none)) else (if (x0.length : Int) ≤ 20 then ((qkz.f k x0).bind fun t103 => (some t103)) else (some false))
def qjj.f (k : Nat) (l0 : List ByteArray) : Option (Bool) := qjj.l0 k l0 l0 (l0.length : Int) 0
set_option maxHeartbeats 8000000 in
set_option maxRecDepth 100000 in
theorem qjj.calls (k : Nat) (A0 : Option Addr) (c0 : Nat) (l0 : List ByteArray) (r : Bool) (w : World) (hr0 : Kd.C Kd.string w A0 l0.length l0) (hc0 : l0.length ≤ c0) (h : qjj.f k l0 = some r) :
  Calls Try.prog 44 #[.slice A0 l0.length c0] w fun e w' => e = .returned (.bool r) ∧ Drawn0 w w' := by
 have HR0 := qq.mk hr0
 have HC0 := qq.mk hc0
 clear hr0 hc0
 have H : (qjj.l0 k l0 l0 (l0.length : Int) 0) = some r := h
 clear h
 have H' := qq.mk H
 clear H
 go_enter Try.func44,Try.ntmps44
 go_wp2
 go_loopg [7] k (fun kq v7 w' => ∃ (x7_1 : Int),v7 = .int .i64 x7_1 ∧ qq (qjj.l0 kq l0 l0 (l0.length : Int) x7_1 = some r) ∧ qq (kq ≤ k) ∧ Drawn0 w w')
 case atStart => exact ⟨(0),(by first | rfl | (simp;done) | (simp [*];done)),H',⟨Nat.le_refl _⟩,by repeat (first | exact Drawn0.refl _ | apply Drawn0.step)⟩
 case round =>
  clear H'
  obtain ⟨x7_1,rfl,HA,HK1,⟨m1,rfl⟩⟩ := hrel
  cases gk with
  | zero => exact absurd HA.out (by simp [qjj.l0])
  | succ k1 =>
   have H := HA.out
   clear HA
   simp only [qjj.l0] at H
   by_cases c2 : x7_1 < (l0.length : Int)
   ·rw [if_pos c2] at H
    have c2b0 : decide (x7_1 < (l0.length : Int)) = true := decide_eq_true c2
    clear c2
    by_cases c3 : 0 ≤ x7_1
    ·rw [if_pos c3] at H
     have c3b0 : decide (0 ≤ x7_1) = true := decide_eq_true c3
     clear c3
     by_cases c4 : x7_1 < (l0.length : Int)
     ·rw [if_pos c4] at H
      have c4b0 : decide (x7_1 < (l0.length : Int)) = true := decide_eq_true c4
      clear c4
      replace H := Option.bind_eq_some_iff.mp H
      obtain ⟨t102,A50,H⟩ := H
      replace H : (if t102 = true then (qjj.l0 k1 l0 l0 (l0.length : Int) (wrap64 (x7_1 + 1))) else (some false)) = some r := H
      have A5 := qq.mk A50
      clear A50
      by_cases c6 : t102 = true
      ·subst c6
       have H1 : (qjj.l0 k1 l0 l0 (l0.length : Int) (wrap64 (x7_1 + 1))) = some r := by rw [if_pos rfl] at H;exact H
       clear H
       have H := H1
       clear H1
       have H' := qq.mk H
       clear H
       have p101 : 0 ≤ (x7_1 : Int) := of_decide_eq_true (by assumption)
       have q101 : x7_1 < (l0.length : Int) := of_decide_eq_true (by assumption)
       obtain ⟨ad101,e101,hx101_0⟩ := Kd.at_string HR0.out x7_1 p101 q101
       cases e101
       replace p101 := eq_true p101
       replace q101 := eq_true q101
       go_wp2_with (first | ((with_reducible refine jv (f := 73) rfl ?_);refine goesL_ (some 12) rfl rfl Try.func73 (by kernel_rfl) rfl #[.string (rdOf ByteArray.empty l0 x7_1)] rfl (by (try simp only [List.map_toArray,List.map_cons,List.map_nil]);first | done | rfl | (simp only [List.length_drop,List.length_take];rfl)) ?_;(with_reducible refine (qjq.calls k1 (rdOf ByteArray.empty l0 x7_1) true _ A5.out).mono ?_);rintro e w' ⟨rfl,⟨nd,rfl⟩⟩;refine ⟨_,rfl,?_⟩))
       go_roundg k1
       case measure => have := HK1.out;omega
       case rel => exact ⟨(wrap64 (x7_1 + 1)),(by first | rfl | (simp;done) | (simp [*];done)),H',⟨by have := HK1.out;omega⟩,by repeat (first | exact Drawn0.refl _ | apply Drawn0.step)⟩
      ·replace c6 := Bool.eq_false_iff.mpr c6
       subst c6
       have H1 : (some false) = some r := by rw [if_neg (show ¬ (false = true) by decide)] at H;exact H
       clear H
       have H := H1
       clear H1
       obtain rfl := Option.some.inj H
       have p101 : 0 ≤ (x7_1 : Int) := of_decide_eq_true (by assumption)
       have q101 : x7_1 < (l0.length : Int) := of_decide_eq_true (by assumption)
       obtain ⟨ad101,e101,hx101_0⟩ := Kd.at_string HR0.out x7_1 p101 q101
       cases e101
       replace p101 := eq_true p101
       replace q101 := eq_true q101
       go_wp2_with (first | ((with_reducible refine jv (f := 73) rfl ?_);refine goesL_ (some 12) rfl rfl Try.func73 (by kernel_rfl) rfl #[.string (rdOf ByteArray.empty l0 x7_1)] rfl (by (try simp only [List.map_toArray,List.map_cons,List.map_nil]);first | done | rfl | (simp only [List.length_drop,List.length_take];rfl)) ?_;(with_reducible refine (qjq.calls k1 (rdOf ByteArray.empty l0 x7_1) false _ A5.out).mono ?_);rintro e w' ⟨rfl,⟨nd,rfl⟩⟩;refine ⟨_,rfl,?_⟩))
       go_ret
       exact ⟨by first | rfl | (simp;done) | (simp [*];done),by repeat (first | exact Drawn0.refl _ | apply Drawn0.step)⟩
     ·rw [if_neg c4] at H
      exact absurd H (by simp)
    ·rw [if_neg c3] at H
     exact absurd H (by simp)
   ·rw [if_neg c2] at H
    have c2b0 : decide (x7_1 < (l0.length : Int)) = false := decide_eq_false c2
    clear c2
    by_cases c7 : (l0.length : Int) ≤ 20
    ·rw [if_pos c7] at H
     have c7b0 : decide ((l0.length : Int) ≤ 20) = true := decide_eq_true c7
     have c7b1 : decide (l0.length ≤ 20) = true := decide_eq_true (by omega)
     clear c7
     replace H := Option.bind_eq_some_iff.mp H
     obtain ⟨t103,A80,H⟩ := H
     replace H : (some t103) = some r := H
     have A8 := qq.mk A80
     clear A80
     obtain rfl := Option.some.inj H
     go_wp2_with (first | (go_at_call 74;(with_reducible refine (qkz.calls k1 _ _ l0 t103 _ ?side1 ?side2 A8.out).mono ?_);(case side1 => repeat (first | exact HR0.out | (with_reducible refine Kd.C_alloc ?_ _) | (with_reducible refine Kd.C_drewN ?_ _) | (with_reducible refine Kd.C_drew ?_)));(case side2 => exact HC0.out);rintro e w' ⟨rfl,⟨nd,rfl⟩⟩))
     go_ret
     exact ⟨by first | rfl | (simp;done) | (simp [*];done),by repeat (first | exact Drawn0.refl _ | apply Drawn0.step)⟩
    ·rw [if_neg c7] at H
     have c7b0 : decide ((l0.length : Int) ≤ 20) = false := decide_eq_false c7
     have c7b1 : decide (l0.length ≤ 20) = false := decide_eq_false (by omega)
     clear c7
     obtain rfl := Option.some.inj H
     go_wp2
     go_ret
     exact ⟨by first | rfl | (simp;done) | (simp [*];done),by repeat (first | exact Drawn0.refl _ | apply Drawn0.step)⟩
end Go.Proofs.Ytakocdkcfjkmdaa.Pr
namespace Go.Proofs.Ytakocdkcfjkmdaa.Pr
open Go.RowKit Go.Proofs.YtakocdkcfjkmdaaW.PrintWords Go.Proofs.YtakocdkcfjkmdaaW.PrintLast Go.Proofs.YtakocdkcfjkmdaaW.PrintMore
attribute [local go_sem] max2_int min2_int max_two min_two max_three min_three max_four min_four
set_option linter.unusedVariables false
set_option linter.unusedSimpArgs false
def qkq.l0 : Nat → ByteArray → Int → Option (Bool)
 | 0,_,_ => none
 | k + 1,x0,x3 => if x3 < (x0.size : Int) then (if 0 ≤ x3 then (if (bt x0 x3) < 32 then (some false) else (if (bt x0 x3) > 126 then (some false) else (qkq.l0 k x0 (wrap64 (x3 + 1))))) else (none)) else (some true)
def qkq.f (k : Nat) (a0 : ByteArray) : Option (Bool) := qkq.l0 k a0 0
set_option maxHeartbeats 8000000 in
set_option maxRecDepth 100000 in
theorem qkq.calls (k : Nat) (a0 : ByteArray) (r : Bool) (w : World) (h : qkq.f k a0 = some r) :
  Calls Try.prog 45 #[.string a0] w fun e w' => e = .returned (.bool r) ∧ Drawn0 w w' := by
 have H : (qkq.l0 k a0 0) = some r := h
 clear h
 have H' := qq.mk H
 clear H
 go_enter Try.func45,Try.ntmps45
 go_wp2
 go_loopg [3] k (fun kq v3 w' => ∃ (x3_1 : Int),v3 = .int .i64 x3_1 ∧ qq (qkq.l0 kq a0 x3_1 = some r) ∧ qq (kq ≤ k) ∧ Drawn0 w w')
 case atStart => exact ⟨(0),(by first | rfl | (simp;done) | (simp [*];done)),H',⟨Nat.le_refl _⟩,by repeat (first | exact Drawn0.refl _ | apply Drawn0.step)⟩
 case round =>
  clear H'
  obtain ⟨x3_1,rfl,HA,HK1,⟨m1,rfl⟩⟩ := hrel
  cases gk with
  | zero => exact absurd HA.out (by simp [qkq.l0])
  | succ k1 =>
   have H := HA.out
   clear HA
   simp only [qkq.l0] at H
   by_cases c2 : x3_1 < (a0.size : Int)
   ·rw [if_pos c2] at H
    have c2b0 : decide (x3_1 < (a0.size : Int)) = true := decide_eq_true c2
    clear c2
    by_cases c3 : 0 ≤ x3_1
    ·rw [if_pos c3] at H
     have c3b0 : decide (0 ≤ x3_1) = true := decide_eq_true c3
     clear c3
     by_cases c5 : (bt a0 x3_1) < 32
     ·rw [if_pos c5] at H
      have c5b0 : decide ((bt a0 x3_1) < 32) = true := decide_eq_true c5
      clear c5
      obtain rfl := Option.some.inj H
      have p4 : 0 ≤ (x3_1 : Int) := of_decide_eq_true (by assumption)
      have q4 : x3_1 < (a0.size : Int) := of_decide_eq_true (by assumption)
      have hx4 := bt_at a0 x3_1
      replace p4 := eq_true p4
      replace q4 := eq_true q4
      go_wp2
      go_ret
      exact ⟨by first | rfl | (simp;done) | (simp [*];done),by repeat (first | exact Drawn0.refl _ | apply Drawn0.step)⟩
     ·rw [if_neg c5] at H
      have c5b0 : decide ((bt a0 x3_1) < 32) = false := decide_eq_false c5
      clear c5
      by_cases c7 : (bt a0 x3_1) > 126
      ·rw [if_pos c7] at H
       have c7b0 : decide (126 < (bt a0 x3_1)) = true := decide_eq_true c7
       clear c7
       obtain rfl := Option.some.inj H
       have p4 : 0 ≤ (x3_1 : Int) := of_decide_eq_true (by assumption)
       have q4 : x3_1 < (a0.size : Int) := of_decide_eq_true (by assumption)
       have hx4 := bt_at a0 x3_1
       replace p4 := eq_true p4
       replace q4 := eq_true q4
       have p6 : 0 ≤ (x3_1 : Int) := of_decide_eq_true (by assumption)
       have q6 : x3_1 < (a0.size : Int) := of_decide_eq_true (by assumption)
       have hx6 := bt_at a0 x3_1
       replace p6 := eq_true p6
       replace q6 := eq_true q6
       go_wp2
       go_ret
       exact ⟨by first | rfl | (simp;done) | (simp [*];done),by repeat (first | exact Drawn0.refl _ | apply Drawn0.step)⟩
      ·rw [if_neg c7] at H
       have c7b0 : decide (126 < (bt a0 x3_1)) = false := decide_eq_false c7
       clear c7
       have H' := qq.mk H
       clear H
       have p4 : 0 ≤ (x3_1 : Int) := of_decide_eq_true (by assumption)
       have q4 : x3_1 < (a0.size : Int) := of_decide_eq_true (by assumption)
       have hx4 := bt_at a0 x3_1
       replace p4 := eq_true p4
       replace q4 := eq_true q4
       have p6 : 0 ≤ (x3_1 : Int) := of_decide_eq_true (by assumption)
       have q6 : x3_1 < (a0.size : Int) := of_decide_eq_true (by assumption)
       have hx6 := bt_at a0 x3_1
       replace p6 := eq_true p6
       replace q6 := eq_true q6
       go_wp2
       go_roundg k1
       case measure => have := HK1.out;omega
       case rel => exact ⟨(wrap64 (x3_1 + 1)),(by first | rfl | (simp;done) | (simp [*];done)),H',⟨by have := HK1.out;omega⟩,by repeat (first | exact Drawn0.refl _ | apply Drawn0.step)⟩
    ·rw [if_neg c3] at H
     exact absurd H (by simp)
   ·rw [if_neg c2] at H
    have c2b0 : decide (x3_1 < (a0.size : Int)) = false := decide_eq_false c2
    clear c2
    obtain rfl := Option.some.inj H
    go_wp2
    go_ret
    exact ⟨by first | rfl | (simp;done) | (simp [*];done),by repeat (first | exact Drawn0.refl _ | apply Drawn0.step)⟩
end Go.Proofs.Ytakocdkcfjkmdaa.Pr
