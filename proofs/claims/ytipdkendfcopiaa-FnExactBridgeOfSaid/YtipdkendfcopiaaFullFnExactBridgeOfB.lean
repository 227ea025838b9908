/- Printed texts, walks and plain facts that the law FnExactBridgeOf leans on, joined. -/
import Derived.Test.YtipdkendfcopiaaFullFnExactBridgeOfA
import Derived.ProofKit
import Derived.OpenShut
import Derived.ShutString
import Derived.ChangeOld
import Derived.Deep.Slices
import Derived.Lib.SmallJoins
import Derived.Test.YtipdkendfcopiaaProg
import Derived.Below
import Derived.Deep.Draws
import Derived.Deep.AppendLies
import Derived.Maps.AppendAt
import Derived.OwnWalk
import Derived.Laws.BytesArg
import Derived.Laws.MakeOwn
import Derived.Laws.OwnMore
import Derived.Deep.OwnRows
import Derived.Tactics
import Derived.Lib.ConvBytes
import Derived.Laws.Slices
import Derived.WalkKit
import Derived.KernelRfl
import Derived.RowKit3
import Derived.Deep.LoopGhost
import Derived.Deep.QuietTactic
import Derived.BigQuiet
import Derived.WideLaws
import Derived.Deep.DeepCutAuto
import Derived.Deep.CutBlock
import Derived.Deep.RegionHeld3
import Derived.Laws.Rows
import Derived.Lib.AppendStr
import Derived.ArgAppend
import Derived.Laws.IdiomCopy
import Derived.OrdersHeld
import Derived.Laws.BitsLemmas
import Derived.RowKit
import Derived.WalkSpells
namespace Go.Proofs.Ytipdkendfcopiaa.Read
open Go.RowKit Go.ChangeShapes Go.WideShapes Go.Deep Go.Proofs.YtipdkendfcopiaaW.PrintWords
set_option linter.unusedVariables false
def Tells (P : Program) (t : TypeId) {α : Type} (d : Kd α) (ok : α → Prop) : Prop :=
 P.cellsOf t = d.sz ∧ ∀ (H : Type) (enc : TypeId × Value → H) (w : World) (sp : Nat → Bool) (fuel : Nat) (cs : List Value) (x : DataW H × List MemPlace),
  DataW.trod enc P w 0 sp true fuel t cs = some x → ∃ a : α,d.K w a cs ∧ ok a
theorem tells_int {P : Program} {t : TypeId} {k : IntKind} (ht : P.underlying t = some (.int k)) (hc : P.cellsOf t = 1) : Tells P t (Kd.int k) (fun n => (Lit.int k n).wf = true) :=
 ⟨hc,fun H enc w sp fuel cs x h => by
  obtain ⟨n,rfl,_,hw⟩ := DataW.trod_int ht h
  exact ⟨n,rfl,hw⟩⟩
theorem tells_string {P : Program} {t : TypeId} (ht : P.underlying t = some .string) (hc : P.cellsOf t = 1) : Tells P t Kd.string (fun s => s.size ≤ maxLen) :=
 ⟨hc,fun H enc w sp fuel cs x h => by
  obtain ⟨n,rfl,_,hs⟩ := DataW.trod_string ht h
  exact ⟨n,rfl,hs⟩⟩
theorem tells_slice {P : Program} {t e : TypeId} {α : Type} {d : Kd α} {ok : α → Prop} (ht : P.underlying t = some (.slice e)) (hc : P.cellsOf t = 1) (he : Tells P e d ok) :
  Tells P t (Kd.slice e d) (fun xs => xs.length ≤ 9223372036854775807 ∧ ∀ x ∈ xs,ok x) := by
 refine ⟨hc,fun H enc w sp fuel cs x h => ?_⟩
 rcases open_slice ht h with ⟨rfl,_⟩ | ⟨a,len,cap,m,n,D,Pl,rfl,_,hl,hm,hmm,_,hx⟩
 ·exact ⟨[],⟨none,0,rfl,by simp,Kd.C_nil d w⟩,by simp,by simp⟩
 ·have hlm : len ≤ m := by rw [hmm];split <;> omega
  have hmax : len ≤ 9223372036854775807 := by unfold maxLen at hm;omega
  have key : ∀ j,j ≤ len → ∃ xs : List α,xs.length = j ∧ (∀ x ∈ xs,ok x) ∧ ∀ i p,xs[i]? = some p → ∃ c,c.length = d.sz ∧ d.K w p c ∧ ∀ k u,c[k]? = some u → w.cell? (a.add (i * d.sz + k)) = some u := by
   intro j
   induction j with
   | zero => exact fun _ => ⟨[],rfl,by simp,by simp⟩
   | succ j ih =>
    intro hj
    obtain ⟨xs,hxl,hok,hc⟩ := ih (by omega)
    obtain ⟨cs',h1,h2⟩ := hx j (by omega)
    obtain ⟨y,hy,hoky⟩ := he.2 H enc w sp n cs' _ h2
    obtain ⟨_,hcl,hcc⟩ := World.cells?_some h1
    refine ⟨xs ++ [y],by simp [hxl],fun x hx => ?_,fun i p hp => ?_⟩
    ·rcases List.mem_append.1 hx with hx | hx
     ·exact hok x hx
     ·rw [List.mem_singleton.1 hx];exact hoky
    ·rcases Nat.lt_or_ge i xs.length with hi | hi
     ·rw [List.getElem?_append_left hi] at hp
      exact hc i p hp
     ·rw [List.getElem?_append_right hi] at hp
      have hi' : i = xs.length := by
       rcases Nat.eq_zero_or_pos (i - xs.length) with h0 | h0
       ·omega
       ·rw [List.getElem?_eq_none (by simp;omega)] at hp;cases hp
      subst hi'
      simp only [Nat.sub_self,List.getElem?_cons_zero,Option.some.injEq] at hp
      subst hp
      refine ⟨cs',by rw [hcl,he.1],hy,fun k u hu => ?_⟩
      have hk : k < P.cellsOf e := by
       rcases Nat.lt_or_ge k cs'.length with h | h
       ·omega
       ·rw [List.getElem?_eq_none h] at hu;cases hu
      have := hcc k hk
      rw [Go.Addr.add_add,he.1,← hxl] at this
      rw [this];exact hu
  obtain ⟨xs,hxl,hok,hc⟩ := key len (Nat.le_refl _)
  refine ⟨xs,⟨some a,cap,by rw [hxl],by omega,?_⟩,by omega,hok⟩
  exact ⟨rfl,by omega,fun _ => ⟨a,rfl,hc⟩⟩
def TellsFs (P : Program) (fs : List Field) (o : Nat) {α : Type} (d : Kd α) (ok : α → Prop) : Prop :=
 ∀ (H : Type) (enc : TypeId × Value → H) (w : World) (sp : Nat → Bool) (n : Nat) (cs : List Value),o + d.sz = cs.length →
  (∀ f ∈ fs,∃ x,DataW.trod enc P w 0 sp true n f.type ((cs.drop f.offset).take (P.cellsOf f.type)) = some x) → ∃ a,d.K w a (cs.drop o) ∧ ok a
theorem fs_one {P : Program} {f : Field} {o : Nat} {α : Type} {d : Kd α} {ok : α → Prop} (ho : f.offset = o) (hf : Tells P f.type d ok) : TellsFs P [f] o d ok := by
 intro H enc w sp n cs hl h
 obtain ⟨x,hx⟩ := h f List.mem_cons_self
 obtain ⟨a,ha,hok⟩ := hf.2 H enc w sp n _ x hx
 refine ⟨a,?_,hok⟩
 rw [ho,hf.1,List.take_of_length_le (by rw [List.length_drop];omega)] at ha
 exact ha
theorem fs_cons {P : Program} {f : Field} {fs : List Field} {o : Nat} {α β : Type} {d : Kd α} {ok : α → Prop} {d2 : Kd β} {ok2 : β → Prop} (ho : f.offset = o) (hf : Tells P f.type d ok)
  (hr : TellsFs P fs (o + d.sz) d2 ok2) : TellsFs P (f :: fs) o (Kd.pair d d2) (fun p => ok p.1 ∧ ok2 p.2) := by
 intro H enc w sp n cs hl h
 have hl' : o + (d.sz + d2.sz) = cs.length := hl
 obtain ⟨x,hx⟩ := h f List.mem_cons_self
 obtain ⟨a,ha,hok⟩ := hf.2 H enc w sp n _ x hx
 obtain ⟨b,hb,hok2⟩ := hr H enc w sp n cs (by omega) (fun g hg => h g (List.mem_cons_of_mem _ hg))
 refine ⟨(a,b),⟨(cs.drop o).take d.sz,cs.drop (o + d.sz),?_,?_,hb⟩,hok,hok2⟩
 ·rw [← List.drop_drop,List.take_append_drop]
 ·rw [ho,hf.1] at ha;exact ha
theorem tells_struct {P : Program} {t : TypeId} {fs : Array Field} {α : Type} {d : Kd α} {ok : α → Prop} (ht : P.underlying t = some (.struct fs)) (hc : P.cellsOf t = d.sz) (hf : TellsFs P fs.toList 0 d ok) : Tells P t d ok := by
 refine ⟨hc,fun H enc w sp fuel cs x h => ?_⟩
 obtain ⟨xs,n,rfl,_,hl,hxl,hx⟩ := DataW.trod_struct ht h
 have := hf H enc w sp n cs (by rw [Nat.zero_add,← hc,hl]) (fun f hmem => by
  obtain ⟨i,hi,rfl⟩ := List.getElem_of_mem hmem
  have hi' : i < fs.size := by simpa using hi
  have h1 := hx i (fs.toList[i]) (by simp [hi'])
  refine ⟨xs[i]'(by omega),?_⟩
  rw [h1,List.getElem?_eq_getElem])
 simpa using this
theorem tells_iso {P : Program} {t : TypeId} {α β : Type} {d : Kd α} {ok : α → Prop} (f : β → α) (g : α → β) (hfg : ∀ a,f (g a) = a) (h : Tells P t d ok) : Tells P t (Kd.iso d f) (fun b => ok (f b)) :=
 ⟨h.1,fun H enc w sp fuel cs x hx => by
  obtain ⟨a,ha,hok⟩ := h.2 H enc w sp fuel cs x hx
  exact ⟨g a,by show d.K w (f (g a)) cs;rw [hfg];exact ha,by show ok (f (g a));rw [hfg];exact hok⟩⟩
theorem tells_weaken {P : Program} {t : TypeId} {α : Type} {d : Kd α} {ok ok' : α → Prop} (h : Tells P t d ok) (hw : ∀ a,ok a → ok' a) : Tells P t d ok' :=
 ⟨h.1,fun H enc w sp fuel cs x hx => let ⟨a,ha,ho⟩ := h.2 H enc w sp fuel cs x hx;⟨a,ha,hw a ho⟩⟩
theorem tells_arg {P : Program} {t : TypeId} {α : Type} {d : Kd α} {ok : α → Prop} (h : Tells P t d ok) {H : Type} {enc : TypeId × Value → H} {w : World} {sp : Nat → Bool} {v : Value} {D : DataW H} {ps : List MemPlace}
  (hv : DataW.Trod enc P w 0 sp true t v D ps) : ∃ a,d.K w a v.cells.toList ∧ ok a := by
 obtain ⟨fuel,hf⟩ := hv
 exact h.2 H enc w sp fuel _ _ hf
theorem int_bounds {n : Int} (h : (Lit.int .i64 n).wf = true) : -9223372036854775808 ≤ n ∧ n ≤ 9223372036854775807 := by
 simpa [Lit.wf,IntKind.min,IntKind.max,IntKind.signed,IntKind.bits] using h
theorem byte_bounds {n : Int} (h : (Lit.int .u8 n).wf = true) : 0 ≤ n ∧ n ≤ 255 := by
 simpa [Lit.wf,IntKind.min,IntKind.max,IntKind.signed,IntKind.bits] using h
def okI (n : Int) : Prop := -9223372036854775808 ≤ n ∧ n ≤ 9223372036854775807
def okB (n : Int) : Prop := 0 ≤ n ∧ n ≤ 255
def okS (s : ByteArray) : Prop := s.size ≤ 9223372036854775807
def okL {α : Type} (ok : α → Prop) (xs : List α) : Prop := xs.length ≤ 9223372036854775807 ∧ ∀ x ∈ xs,ok x
theorem tellsI {P : Program} {t : TypeId} (ht : P.underlying t = some (.int .i64)) (hc : P.cellsOf t = 1) : Tells P t (Kd.int .i64) okI := tells_weaken (tells_int ht hc) fun _ h => int_bounds h
theorem tellsB {P : Program} {t : TypeId} (ht : P.underlying t = some (.int .u8)) (hc : P.cellsOf t = 1) : Tells P t (Kd.int .u8) okB := tells_weaken (tells_int ht hc) fun _ h => byte_bounds h
theorem tellsS {P : Program} {t : TypeId} (ht : P.underlying t = some .string) (hc : P.cellsOf t = 1) : Tells P t Kd.string okS := tells_weaken (tells_string ht hc) fun _ h => by unfold maxLen at h;exact h
theorem tellsL {P : Program} {t e : TypeId} {α : Type} {d : Kd α} {ok : α → Prop} (ht : P.underlying t = some (.slice e)) (hc : P.cellsOf t = 1) (he : Tells P e d ok) : Tells P t (Kd.slice e d) (okL ok) := tells_slice ht hc he
theorem arg_slice {P : Program} {t e : TypeId} {α : Type} {d : Kd α} {ok : α → Prop} (ht : P.underlying t = some (.slice e)) (h : Tells P t (Kd.slice e d) (okL ok)) {H : Type} {enc : TypeId × Value → H} {w w2 : World} {r : Reach} {base : Nat} {sp : Nat → Bool} {v : Value} {D : DataW H} {ps : List MemPlace}
  (ho : Value.okWide P w2 r base t v) (hv : DataW.Trod enc P w 0 sp true t v D ps) : ∃ A c xs,v = .slice A xs.length c ∧ xs.length ≤ c ∧ d.C w A xs.length xs ∧ okL ok xs := by
 obtain ⟨a,l,c,rfl⟩ := okWide_slice ht ho
 obtain ⟨xs,⟨A,c',hc,hl,hC⟩,hok⟩ := tells_arg h hv
 simp only [Value.cells,List.cons.injEq,and_true,Value.slice.injEq] at hc
 obtain ⟨rfl,rfl,rfl⟩ := hc
 exact ⟨_,_,xs,rfl,hl,hC,hok⟩
end Go.Proofs.Ytipdkendfcopiaa.Read
namespace Go.Proofs.Ytipdkendfcopiaa.Pr
open Go.RowKit Go.Proofs.YtipdkendfcopiaaW.PrintWords Go.Proofs.YtipdkendfcopiaaW.PrintLast Go.Proofs.YtipdkendfcopiaaW.PrintMore
attribute [local go_sem] max2_int min2_int max_two min_two max_three min_three max_four min_four
set_option linter.unusedVariables false
set_option linter.unusedSimpArgs false
def errW : Option Int → Value
 | none => .nilIface
 | some c => .iface 0 (.int .i64 c)
theorem jk : errW none = .nilIface := rfl
theorem jj (c : Int) : errW (some c) = .iface 0 (.int .i64 c) := rfl
theorem info5 : (Try.prog.info? 5).map (fun i => (i.zero,i.size,i.bytes)) = some (some (.int .u8 0),1,1) := by kernel_rfl
theorem info22 : (Try.prog.info? 22).map (fun i => (i.zero,i.size,i.bytes)) = some (some (.slice none 0 0),1,24) := by kernel_rfl
theorem info27 : (Try.prog.info? 27).map (fun i => (i.zero,i.size,i.bytes)) = some (some (.agg #[(.int .i64 0),(.string ⟨#[]⟩),(.string ⟨#[]⟩),(.slice none 0 0),(.slice none 0 0)]),5,88) := by kernel_rfl
def rd_L2 (xs : List (List Int)) (i : Int) : (List Int) := xs.getD i.toNat ([] : List Int)
theorem at_L2 {w : World} {A : Option Addr} {n : Nat} {xs : List (List Int)} (h : Kd.C (Kd.slice 5 (Kd.int .u8)) w A n xs) (i : Int) (h0 : 0 ≤ i) (h1 : i < n) : ∃ ad A0 c0,A = some ad ∧ w.cell? (ad.add i.toNat) = some (.slice A0 (rd_L2 xs i).length c0) ∧ (rd_L2 xs i).length ≤ c0 ∧ (Kd.int .u8).C w A0 (rd_L2 xs i).length (rd_L2 xs i) := by
 obtain ⟨ad,c,e,_,hK,hc0⟩ := Kd.C_get h ([] : List Int) i h0 h1
 have hc : ∀ j u,c[j]? = some u → w.cell? (ad.add (i.toNat * 1 + j)) = some u := hc0
 obtain ⟨A0,c0,rfl,l0,g0⟩ := hK
 exact ⟨ad,A0,c0,e,by have hq := hc 0 _ rfl;rwa [Nat.mul_one,Nat.add_zero] at hq,l0,g0⟩
structure S24 where
 f0 : Int
 f1 : ByteArray
 f2 : ByteArray
 f3 : (List Int)
 f4 : (List Int)
def z24 : S24 := ⟨(0 : Int),(⟨#[]⟩ : ByteArray),(⟨#[]⟩ : ByteArray),([] : List Int),([] : List Int)⟩
def k24 : Kd S24 := Kd.iso (Kd.pair (Kd.int .i64) (Kd.pair Kd.string (Kd.pair Kd.string (Kd.pair (Kd.slice 5 (Kd.int .u8)) (Kd.slice 5 (Kd.int .u8)))))) (fun x : S24 => (x.f0,x.f1,x.f2,x.f3,x.f4))
theorem k24_open {w : World} {x : S24} {cs : List Value} (h : k24.K w x cs) : ∃ A3 c3 A4 c4,cs = [.int .i64 x.f0,.string x.f1,.string x.f2,.slice A3 x.f3.length c3,.slice A4 x.f4.length c4] ∧ x.f3.length ≤ c3 ∧ (Kd.int .u8).C w A3 x.f3.length x.f3 ∧ x.f4.length ≤ c4 ∧ (Kd.int .u8).C w A4 x.f4.length x.f4 := by
 obtain ⟨_,_,rfl,rfl,⟨_,_,rfl,rfl,⟨_,_,rfl,rfl,⟨_,_,rfl,⟨A3,c3,rfl,l3,g3⟩,⟨A4,c4,rfl,l4,g4⟩⟩⟩⟩⟩ := h
 exact ⟨A3,c3,A4,c4,rfl,l3,g3,l4,g4⟩
def wz (xs : List S24) (i : Int) : S24 := xs.getD i.toNat z24
theorem at_T24 {w : World} {A : Option Addr} {n : Nat} {xs : List S24} (h : Kd.C k24 w A n xs) (i : Int) (h0 : 0 ≤ i) (h1 : i < n) : ∃ ad A3 c3 A4 c4,A = some ad ∧ w.cell? (ad.add (i.toNat * 5)) = some (.int .i64 (wz xs i).f0) ∧ w.cell? ⟨(ad.add (i.toNat * 5)).block,(ad.add (i.toNat * 5)).off + 1,none⟩ = some (.string (wz xs i).f1) ∧ w.cell? ⟨(ad.add (i.toNat * 5)).block,(ad.add (i.toNat * 5)).off + 2,none⟩ = some (.string (wz xs i).f2) ∧ w.cell? ⟨(ad.add (i.toNat * 5)).block,(ad.add (i.toNat * 5)).off + 3,none⟩ = some (.slice A3 (wz xs i).f3.length c3) ∧ w.cell? ⟨(ad.add (i.toNat * 5)).block,(ad.add (i.toNat * 5)).off + 4,none⟩ = some (.slice A4 (wz xs i).f4.length c4) ∧ (wz xs i).f3.length ≤ c3 ∧ (Kd.int .u8).C w A3 (wz xs i).f3.length (wz xs i).f3 ∧ (wz xs i).f4.length ≤ c4 ∧ (Kd.int .u8).C w A4 (wz xs i).f4.length (wz xs i).f4 := by
 obtain ⟨ad,c,e,_,hK,hc0⟩ := Kd.C_get h z24 i h0 h1
 have hc : ∀ j u,c[j]? = some u → w.cell? (ad.add (i.toNat * 5 + j)) = some u := hc0
 obtain ⟨A3,c3,A4,c4,rfl,l3,g3,l4,g4⟩ := k24_open hK
 exact ⟨ad,A3,c3,A4,c4,e,hc 0 _ rfl,by rw [← add_field _ _ 1 (by omega)];exact hc 1 _ rfl,by rw [← add_field _ _ 2 (by omega)];exact hc 2 _ rfl,by rw [← add_field _ _ 3 (by omega)];exact hc 3 _ rfl,by rw [← add_field _ _ 4 (by omega)];exact hc 4 _ rfl,l3,g3,l4,g4⟩
structure S27 where
 f0 : Int
 f1 : ByteArray
 f2 : ByteArray
 f3 : (List Int)
 f4 : (List Int)
def z27 : S27 := ⟨(0 : Int),(⟨#[]⟩ : ByteArray),(⟨#[]⟩ : ByteArray),([] : List Int),([] : List Int)⟩
def k27 : Kd S27 := Kd.iso (Kd.pair (Kd.int .i64) (Kd.pair Kd.string (Kd.pair Kd.string (Kd.pair (Kd.slice 5 (Kd.int .u8)) (Kd.slice 5 (Kd.int .u8)))))) (fun x : S27 => (x.f0,x.f1,x.f2,x.f3,x.f4))
theorem k27_open {w : World} {x : S27} {cs : List Value} (h : k27.K w x cs) : ∃ A3 c3 A4 c4,cs = [.int .i64 x.f0,.string x.f1,.string x.f2,.slice A3 x.f3.length c3,.slice A4 x.f4.length c4] ∧ x.f3.length ≤ c3 ∧ (Kd.int .u8).C w A3 x.f3.length x.f3 ∧ x.f4.length ≤ c4 ∧ (Kd.int .u8).C w A4 x.f4.length x.f4 := by
 obtain ⟨_,_,rfl,rfl,⟨_,_,rfl,rfl,⟨_,_,rfl,rfl,⟨_,_,rfl,⟨A3,c3,rfl,l3,g3⟩,⟨A4,c4,rfl,l4,g4⟩⟩⟩⟩⟩ := h
 exact ⟨A3,c3,A4,c4,rfl,l3,g3,l4,g4⟩
theorem k27_openM {w : World} {base : Nat} {ok : Nat → Prop} {x : S27} {cs : List Value} (h : k27.M w base ok x cs) : ∃ v3 v4,cs = [.int .i64 x.f0,.string x.f1,.string x.f2,v3,v4] ∧ (Kd.int .u8).R 5 w base ok v3 x.f3 ∧ (Kd.int .u8).R 5 w base ok v4 x.f4 := by
 obtain ⟨_,_,rfl,rfl,⟨_,_,rfl,rfl,⟨_,_,rfl,rfl,⟨_,_,rfl,⟨v3,rfl,g3⟩,⟨v4,rfl,g4⟩⟩⟩⟩⟩ := h
 exact ⟨v3,v4,rfl,g3,g4⟩
theorem k27_mkM (w : World) (base : Nat) (ok : Nat → Prop) (x : S27) {v3 : Value} (g3 : (Kd.int .u8).R 5 w base ok v3 x.f3) {v4 : Value} (g4 : (Kd.int .u8).R 5 w base ok v4 x.f4) : k27.M w base ok x [.int .i64 x.f0,.string x.f1,.string x.f2,v3,v4] := ⟨[.int .i64 x.f0],[.string x.f1,.string x.f2,v3,v4],rfl,rfl,⟨[.string x.f1],[.string x.f2,v3,v4],rfl,rfl,⟨[.string x.f2],[v3,v4],rfl,rfl,⟨[v3],[v4],rfl,⟨v3,rfl,g3⟩,⟨v4,rfl,g4⟩⟩⟩⟩⟩
def wj (xs : List S27) (i : Int) : S27 := xs.getD i.toNat z27
theorem at_T27 {w : World} {A : Option Addr} {n : Nat} {xs : List S27} (h : Kd.C k27 w A n xs) (i : Int) (h0 : 0 ≤ i) (h1 : i < n) : ∃ ad A3 c3 A4 c4,A = some ad ∧ w.cell? (ad.add (i.toNat * 5)) = some (.int .i64 (wj xs i).f0) ∧ w.cell? ⟨(ad.add (i.toNat * 5)).block,(ad.add (i.toNat * 5)).off + 1,none⟩ = some (.string (wj xs i).f1) ∧ w.cell? ⟨(ad.add (i.toNat * 5)).block,(ad.add (i.toNat * 5)).off + 2,none⟩ = some (.string (wj xs i).f2) ∧ w.cell? ⟨(ad.add (i.toNat * 5)).block,(ad.add (i.toNat * 5)).off + 3,none⟩ = some (.slice A3 (wj xs i).f3.length c3) ∧ w.cell? ⟨(ad.add (i.toNat * 5)).block,(ad.add (i.toNat * 5)).off + 4,none⟩ = some (.slice A4 (wj xs i).f4.length c4) ∧ (wj xs i).f3.length ≤ c3 ∧ (Kd.int .u8).C w A3 (wj xs i).f3.length (wj xs i).f3 ∧ (wj xs i).f4.length ≤ c4 ∧ (Kd.int .u8).C w A4 (wj xs i).f4.length (wj xs i).f4 := by
 obtain ⟨ad,c,e,_,hK,hc0⟩ := Kd.C_get h z27 i h0 h1
 have hc : ∀ j u,c[j]? = some u → w.cell? (ad.add (i.toNat * 5 + j)) = some u := hc0
 obtain ⟨A3,c3,A4,c4,rfl,l3,g3,l4,g4⟩ := k27_open hK
 exact ⟨ad,A3,c3,A4,c4,e,hc 0 _ rfl,by rw [← add_field _ _ 1 (by omega)];exact hc 1 _ rfl,by rw [← add_field _ _ 2 (by omega)];exact hc 2 _ rfl,by rw [← add_field _ _ 3 (by omega)];exact hc 3 _ rfl,by rw [← add_field _ _ 4 (by omega)];exact hc 4 _ rfl,l3,g3,l4,g4⟩
structure S107 where
 f0 : (List Int)
 f1 : Int
 f2 : Int
structure MkS (S : Nat → Prop) (w w' : World) : Prop where
 os : w'.os = w.os
 tape : w'.tape = w.tape
 output : w'.output = w.output
 size : w.heap.size ≤ w'.heap.size
 kept : ∀ k,k < w.heap.size → ¬ S k → w'.heap[k]? = w.heap[k]?
 shape : ∀ (k : Nat) (cs : Array Value) (t : TypeId),w.heap[k]? = some (.cells cs t (0,0)) → ∃ cs',w'.heap[k]? = some (.cells cs' t (0,0)) ∧ cs'.size = cs.size
theorem MkS.refl (S : Nat → Prop) (w : World) : MkS S w w := ⟨rfl,rfl,rfl,Nat.le_refl _,fun _ _ _ => rfl,fun _ cs _ h => ⟨cs,h,rfl⟩⟩
theorem MkS.trans {S : Nat → Prop} {w w1 w2 : World} (h : MkS S w w1) (h2 : MkS S w1 w2) : MkS S w w2 :=
 ⟨h2.os.trans h.os,h2.tape.trans h.tape,h2.output.trans h.output,Nat.le_trans h.size h2.size,fun k hk hn => (h2.kept k (Nat.lt_of_lt_of_le hk h.size) hn).trans (h.kept k hk hn),fun k cs t hc => by
  obtain ⟨cs1,h3,h4⟩ := h.shape k cs t hc
  obtain ⟨cs2,h5,h6⟩ := h2.shape k cs1 t h3
  exact ⟨cs2,h5,h6.trans h4⟩⟩
theorem MkS.mono {S S' : Nat → Prop} {w w' : World} (h : MkS S w w') (hs : ∀ k,S k → S' k) : MkS S' w w' :=
 ⟨h.os,h.tape,h.output,h.size,fun k hk hn => h.kept k hk (fun e => hn (hs k e)),h.shape⟩
theorem MkS.below {w w' : World} (S : Nat → Prop) (h : Below w.heap.size w w') : MkS S w w' :=
 ⟨h.os,h.tape,h.output,h.size,fun k hk _ => h.block k hk,fun k cs t hc => ⟨cs,(h.block k (blk_lt hc)).trans hc,rfl⟩⟩
theorem MkS.set {S : Nat → Prop} {w : World} {g t : Nat} {cs : Array Value} (hb : w.heap[g]? = some (.cells cs t (0,0))) (hS : S g) (j : Nat) (u : Value) : MkS S w (w.setCell ⟨g,j,none⟩ u) := by
 have h0 : Below 0 w (w.setCell ⟨g,j,none⟩ u) := (Below.refl 0 w).setCell (p := ⟨g,j,none⟩) (Nat.zero_le _) u
 refine ⟨h0.os,h0.tape,h0.output,h0.size,fun k hk hn => Below.heap_setCell w ⟨g,j,none⟩ u k (fun e => hn (e ▸ hS)),fun k cs' t' hc => ?_⟩
 by_cases hk : k = g
 ·subst hk
  rw [hb] at hc
  injection hc with hc
  injection hc with h1 h2
  subst h1;subst h2
  exact ⟨_,blk_set hb j u,by simp⟩
 ·exact ⟨cs',(Below.heap_setCell w ⟨g,j,none⟩ u k hk).trans hc,rfl⟩
theorem MkS.drew {S : Nat → Prop} {w w' : World} (h : MkS S w w') : MkS S w w'.drew := h.trans (MkS.below S (below_drew (Below.refl _ _)))
theorem MkS.bel {S : Nat → Prop} {w w' : World} {B : Nat} (h : MkS S w w') (hB : B ≤ w.heap.size) (hS : ∀ k,S k → B ≤ k) : Below B w w' := ⟨h.os,h.tape,h.output,h.size,fun k hk => h.kept k (by omega) (fun e => by have := hS k e;omega)⟩
theorem MkS.keptS {S : Nat → Prop} {w w' : World} (h : MkS S w w') : kz w w' S := ⟨h.size,fun k hk hn => h.kept k hk hn⟩
set_option maxHeartbeats 2000000 in
set_option maxRecDepth 100000 in
theorem markB_raw (h n c : Nat) (a1 : Int) (w : World) (cur : Array Value) (hb : w.heap[h]? = some (.cells cur 5 (0,0))) (hn : n ≤ cur.size) (h0 : 0 ≤ a1) (h1 : a1 + n ≤ 4611686018427387904) :
  Calls Try.prog 26 #[.slice (some ⟨h,0,none⟩) n c,.int .i64 a1] w fun e w' => e = .returned (.int .i64 (a1 + n)) ∧ MkS (fun q => q = h) w w' := by
 have HB := qq.mk hb
 have HN := qq.mk hn
 have H1 := qq.mk (And.intro h0 h1)
 clear hb hn h0 h1
 go_enter Try.func26,Try.ntmps26
 go_wp2
 go_loopw [1,5] (fun v1 v5 W => ∃ (k : Nat) (x : Int),k ≤ n ∧ v1 = .int .i64 x ∧ v5 = .int .i64 k ∧ qq (x = a1 + k ∧ MkS (fun q => q = h) w W)) (fun _ v5 _ => n - (intOf v5).toNat)
 case atStart => exact ⟨0,a1,by omega,rfl,rfl,⟨by simp,MkS.refl _ _⟩⟩
 case round =>
  obtain ⟨k,x,hk,rfl,rfl,HM⟩ := hrel
  by_cases hlt : k < n
  ·obtain ⟨cs,hcs,hsz⟩ := HM.out.2.shape _ _ _ HB.out
   have hks : k < cs.size := by have := HN.out;omega
   obtain ⟨u,hx⟩ : ∃ u,wr.cell? ⟨h,k,none⟩ = some u := ⟨_,(qw hcs k).trans (Array.getElem?_eq_getElem hks)⟩
   have hf : wr.frozen? ⟨h,k,none⟩ = false := qv hcs k
   have HC := qq.mk hcs
   obtain ⟨x',ex⟩ : ∃ x',x' = wrap64 (x + 1) := ⟨_,rfl⟩
   have HX : qq (x' = a1 + (k + 1 : Nat)) := ⟨by rw [ex,HM.out.1];have := H1.out;unfold wrap64;omega⟩
   replace ex := ex.symm
   have hmx : n ≤ 4611686018427387904 := by have := H1.out;omega
   clear hcs hks hsz
   go_wp2
   go_roundw
   case rel => exact ⟨k + 1,x',by omega,by rw [ex],by go_num,⟨HX.out,HM.out.2.trans (by first | exact MkS.set (S := fun q => q = h) HC.out rfl _ _ | exact (MkS.set (S := fun q => q = h) HC.out rfl _ _).drew)⟩⟩
   case measure => simp [intOf];omega
  ·obtain rfl : k = n := by omega
   obtain rfl := HM.out.1
   go_wp2
   go_ret
   exact ⟨rfl,HM.out.2⟩
set_option maxHeartbeats 2000000 in
set_option maxRecDepth 100000 in
theorem markB_nil (A : Option Addr) (c : Nat) (a1 : Int) (w : World) :
  Calls Try.prog 26 #[.slice A 0 c,.int .i64 a1] w fun e w' => e = .returned (.int .i64 a1) ∧ w' = w := by
 go_enter Try.func26,Try.ntmps26
 go_wp2
 go_loopw [1,5] (fun v1 v5 W => v1 = .int .i64 a1 ∧ v5 = .int .i64 0 ∧ qq (W = w)) (fun _ v5 _ => 0)
 case atStart => exact ⟨rfl,rfl,⟨rfl⟩⟩
 case round =>
  obtain ⟨rfl,rfl,HM⟩ := hrel
  go_wp2
  go_ret
  exact ⟨rfl,HM.out⟩
def RowAt (ok : Nat → Prop) (g : Nat) (w : World) (v : Value) (m : Nat) : Prop :=
 ∃ A c,v = .slice A m c ∧ (m = 0 ∨ ∃ h cur,A = some ⟨h,0,none⟩ ∧ ok h ∧ h ≠ g ∧ w.heap[h]? = some (.cells cur 5 (0,0)) ∧ m ≤ cur.size)
theorem RowAt.mk_ {ok S : Nat → Prop} {g : Nat} {w w' : World} {v : Value} {m : Nat} (h : RowAt ok g w v m) (hm : MkS S w w') : RowAt ok g w' v m := by
 obtain ⟨A,c,e,h⟩ := h
 refine ⟨A,c,e,?_⟩
 rcases h with h | ⟨b,cur,e1,h1,h2,h3,h4⟩
 ·exact .inl h
 ·obtain ⟨cs,h5,h6⟩ := hm.shape _ _ _ h3
  exact .inr ⟨b,cs,e1,h1,h2,h5,by omega⟩
theorem markB_at {ok : Nat → Prop} {g : Nat} {w : World} {v : Value} {m : Nat} (h : RowAt ok g w v m) (a1 : Int) (h0 : 0 ≤ a1) (h1 : a1 + m ≤ 4611686018427387904) :
  Calls Try.prog 26 #[v,.int .i64 a1] w fun e w' => e = .returned (.int .i64 (a1 + m)) ∧ MkS (fun q => ok q ∧ q ≠ g) w w' := by
 obtain ⟨A,c,rfl,h⟩ := h
 rcases h with rfl | ⟨b,cur,rfl,h2,h3,h4,h5⟩
 ·refine (markB_nil A c a1 w).mono ?_
  rintro e w' ⟨rfl,rfl⟩
  exact ⟨by simp,MkS.refl _ _⟩
 ·refine (markB_raw b m c a1 w cur h4 h5 h0 h1).mono ?_
  rintro e w' ⟨rfl,hm⟩
  exact ⟨rfl,hm.mono (fun k hk => by subst hk;exact ⟨h2,h3⟩)⟩
theorem RowAt.of_R {ok : Nat → Prop} {g base : Nat} {w : World} {v : Value} {xs : List Int} (h : Kd.R (Kd.int .u8) 5 w base (fun k => ok k ∧ k ≠ g) v xs) : RowAt ok g w v xs.length := by
 obtain ⟨inner,ho⟩ := Kd.R_own h
 rcases ho.2 with ⟨rfl,hz⟩ | ⟨b,cap,cur,rfl,hb,hh,h1,h2,h3,h4⟩
 ·exact ⟨none,0,by rw [hz],.inl hz⟩
 ·have hk := h.1 b rfl
  exact ⟨_,cap,rfl,.inr ⟨b,cur,rfl,hk.1,hk.2,hh,by rw [h3];show xs.length ≤ cap * 1;omega⟩⟩
def markAt (a1 : Int) (q : Nat) : Int := (a1 + q) % 256
set_option maxHeartbeats 2000000 in
set_option maxRecDepth 100000 in
theorem markB_ex (h n c : Nat) (a1 : Int) (w : World) (cur : Array Value) (hb : w.heap[h]? = some (.cells cur 5 (0,0))) (hn : n ≤ cur.size) (h0 : 0 ≤ a1) (h1 : a1 + n ≤ 4611686018427387904) :
  Calls Try.prog 26 #[.slice (some ⟨h,0,none⟩) n c,.int .i64 a1] w fun e w' => e = .returned (.int .i64 (a1 + n)) ∧ MkS (fun q => q = h) w w' ∧ ∀ q,q < n → w'.cell? ⟨h,q,none⟩ = some (.int .u8 (markAt a1 q)) := by
 have HB := qq.mk hb
 have HN := qq.mk hn
 have H1 := qq.mk (And.intro h0 h1)
 clear hb hn h0 h1
 go_enter Try.func26,Try.ntmps26
 go_wp2
 go_loopw [1,5] (fun v1 v5 W => ∃ (k : Nat) (x : Int),k ≤ n ∧ v1 = .int .i64 x ∧ v5 = .int .i64 k ∧ qq (x = a1 + k ∧ MkS (fun q => q = h) w W ∧ ∀ q,q < k → W.cell? ⟨h,q,none⟩ = some (.int .u8 (markAt a1 q)))) (fun _ v5 _ => n - (intOf v5).toNat)
 case atStart => exact ⟨0,a1,by omega,rfl,rfl,⟨by simp,MkS.refl _ _,fun q hq => absurd hq (Nat.not_lt_zero q)⟩⟩
 case round =>
  obtain ⟨k,x,hk,rfl,rfl,HM⟩ := hrel
  by_cases hlt : k < n
  ·obtain ⟨cs,hcs,hsz⟩ := HM.out.2.1.shape _ _ _ HB.out
   have hks : k < cs.size := by have := HN.out;omega
   obtain ⟨u,hx⟩ : ∃ u,wr.cell? ⟨h,k,none⟩ = some u := ⟨_,(qw hcs k).trans (Array.getElem?_eq_getElem hks)⟩
   have hf : wr.frozen? ⟨h,k,none⟩ = false := qv hcs k
   have HC := qq.mk hcs
   obtain ⟨x',ex⟩ : ∃ x',x' = wrap64 (x + 1) := ⟨_,rfl⟩
   have HX : qq (x' = a1 + (k + 1 : Nat)) := ⟨by rw [ex,HM.out.1];have := H1.out;unfold wrap64;omega⟩
   have HK := qq.mk hks
   replace ex := ex.symm
   have hmx : n ≤ 4611686018427387904 := by have := H1.out;omega
   clear hcs hks hsz
   go_wp2
   go_roundw
   case rel =>
    refine ⟨k + 1,x',by omega,by rw [ex],by go_num,⟨HX.out,?_,?_⟩⟩
    ·exact HM.out.2.1.trans (by first | exact MkS.set (S := fun q => q = h) HC.out rfl _ _ | exact (MkS.set (S := fun q => q = h) HC.out rfl _ _).drew)
    ·intro q hq
     refine (qw (blk_set HC.out k _) q).trans ?_
     by_cases hqk : q = k
     ·subst hqk
      rw [Array.getElem?_setIfInBounds_self_of_lt HK.out,HM.out.1]
      rfl
     ·rw [Array.getElem?_setIfInBounds_ne (Ne.symm hqk)]
      exact (qw HC.out q).symm.trans (HM.out.2.2 q (by omega))
   case measure => simp [intOf];omega
  ·obtain rfl : k = n := by omega
   obtain rfl := HM.out.1
   go_wp2
   go_ret
   exact ⟨rfl,HM.out.2⟩
set_option maxHeartbeats 2000000 in
structure MRow (ok : Nat → Prop) (g b n : Nat) (v : Value) (w : World) : Prop where
 form : ∃ A c,v = .slice A n c ∧ n ≤ c ∧ (n = 0 ∨ A = some ⟨b,0,none⟩ ∧ ok b ∧ b ≠ g ∧ ∃ cur,w.heap[b]? = some (.cells cur 5 (0,0)) ∧ n ≤ cur.size)
theorem MRow.mk_ {ok S : Nat → Prop} {g b n : Nat} {v : Value} {w w' : World} (h : MRow ok g b n v w) (hm : MkS S w w') : MRow ok g b n v w' := by
 obtain ⟨A,c,e,hc,h⟩ := h.form
 refine ⟨⟨A,c,e,hc,?_⟩⟩
 rcases h with h | ⟨e1,h1,h2,cur,h3,h4⟩
 ·exact .inl h
 ·obtain ⟨cs,h5,h6⟩ := hm.shape _ _ _ h3
  exact .inr ⟨e1,h1,h2,cs,h5,by omega⟩
theorem MRow.marked {ok : Nat → Prop} {g b n : Nat} {v : Value} {w : World} (h : MRow ok g b n v w) (a1 : Int) (h0 : 0 ≤ a1) (h1 : a1 + n ≤ 4611686018427387904) :
  Calls Try.prog 26 #[v,.int .i64 a1] w fun e w' => e = .returned (.int .i64 (a1 + n)) ∧ MkS (fun q => n ≠ 0 ∧ q = b ∧ ok q ∧ q ≠ g) w w' ∧ ∀ q,q < n → w'.cell? ⟨b,q,none⟩ = some (.int .u8 (markAt a1 q)) := by
 obtain ⟨A,c,rfl,_,hf⟩ := h.form
 clear h
 by_cases hz : n = 0
 ·subst hz
  refine (markB_nil A c a1 w).mono ?_
  rintro e w' ⟨rfl,rfl⟩
  exact ⟨by simp,MkS.refl _ _,fun q hq => absurd hq (Nat.not_lt_zero q)⟩
 obtain ⟨eA,h2,h3,cur,h4,h5⟩ := hf.resolve_left hz
 subst eA
 refine (markB_ex b n c a1 w cur h4 h5 h0 h1).mono ?_
 rintro e w' ⟨rfl,hm,hc⟩
 exact ⟨rfl,hm.mono (fun k hk => by subst hk;exact ⟨hz,rfl,h2,h3⟩),hc⟩
def totL (ln : Nat → Nat) : Nat → Nat
 | 0 => 0
 | i + 1 => totL ln i + ln i
theorem totL_le (ln : Nat → Nat) {i n : Nat} (h : i ≤ n) : totL ln i ≤ totL ln n := by
 induction n with
 | zero => rw [show i = 0 by omega];exact Nat.le_refl _
 | succ n ih =>
  by_cases h2 : i = n + 1
  ·rw [h2];exact Nat.le_refl _
  ·have := ih (by omega)
   show _ ≤ totL ln n + ln n
   omega
structure MCells (g t n : Nat) (sl : Nat → Value) (W : World) : Prop where
 blk : ∃ cs : Array Value,W.heap[g]? = some (.cells cs t (0,0)) ∧ ∀ i,i < n → cs[i]? = some (sl i)
theorem MCells.cell {g t n : Nat} {sl : Nat → Value} {W : World} (h : MCells g t n sl W) (i : Nat) (hi : i < n) : W.cell? ⟨g,i,none⟩ = some (sl i) := by
 obtain ⟨cs,hb,h2⟩ := h.blk
 exact (qw hb _).trans (h2 i hi)
theorem MCells.keep {g t n : Nat} {sl : Nat → Value} {W W' : World} (h : MCells g t n sl W) (hk : W'.heap[g]? = W.heap[g]?) : MCells g t n sl W' := by
 obtain ⟨cs,hb,r⟩ := h.blk
 exact ⟨⟨cs,hk.trans hb,r⟩⟩
theorem MCells.lt {g t n : Nat} {sl : Nat → Value} {W : World} (h : MCells g t n sl W) : g < W.heap.size := by
 obtain ⟨cs,hb,r⟩ := h.blk
 exact blk_lt hb
set_option maxHeartbeats 4000000 in
set_option maxRecDepth 100000 in
theorem markSS_raw (g t n c : Nat) (bk ln : Nat → Nat) (sl : Nat → Value) (ok : Nat → Prop) (w : World) (a1 : Int) (hI : MCells g t n sl w) (hr : ∀ i,i < n → MRow ok g (bk i) (ln i) (sl i) w) (hd : ∀ i j,i < n → j < n → i ≠ j → ln i ≠ 0 → ln j ≠ 0 → bk i ≠ bk j) (h0 : 0 ≤ a1) (h1 : a1 + totL ln n ≤ 4611686018427387904) (hn : n ≤ 1000000000) :
  Calls Try.prog 42 #[.slice (some ⟨g,0,none⟩) n c,.int .i64 a1] w fun e w' => e = .returned (.int .i64 (a1 + totL ln n)) ∧ MkS (fun q => ok q ∧ q ≠ g) w w' ∧ ∀ i,i < n → ∀ q,q < ln i → w'.cell? ⟨bk i,q,none⟩ = some (.int .u8 (markAt (a1 + totL ln i) q)) := by
 have HI := qq.mk hI
 have HR := qq.mk hr
 have HD := qq.mk hd
 have H1 := qq.mk (And.intro h0 h1)
 clear hI hr hd h0 h1
 go_enter Try.func42,Try.ntmps42
 go_wp2
 go_loopw [1,5] (fun v1 v5 W => ∃ (k : Nat) (x : Int),k ≤ n ∧ v1 = .int .i64 x ∧ v5 = .int .i64 k ∧ qq (x = a1 + totL ln k ∧ MCells g t n sl W ∧ MkS (fun q => ok q ∧ q ≠ g) w W ∧ ∀ i,i < k → ∀ q,q < ln i → W.cell? ⟨bk i,q,none⟩ = some (.int .u8 (markAt (a1 + totL ln i) q)))) (fun _ v5 _ => n - (intOf v5).toNat)
 case atStart => exact ⟨0,a1,by omega,rfl,rfl,⟨by simp [totL],HI.out,MkS.refl _ _,fun i hi => absurd hi (Nat.not_lt_zero i)⟩⟩
 case round =>
  obtain ⟨k,x,hk,rfl,rfl,HM⟩ := hrel
  by_cases hlt : k < n
  ·have hT : a1 + totL ln (k + 1) ≤ 4611686018427387904 := by
    have := H1.out
    have := totL_le ln (show k + 1 ≤ n by omega)
    omega
   have hT2 : totL ln (k + 1) = totL ln k + ln k := rfl
   have hx0 : 0 ≤ x := by have := HM.out.1;have := H1.out;omega
   have hx := HM.out.1
   obtain ⟨x1,e1⟩ : ∃ x1,x1 = x + ln k := ⟨_,rfl⟩
   have HX : qq (x1 = a1 + totL ln (k + 1)) := ⟨by omega⟩
   have C1 := qq.mk (((HR.out k hlt).mk_ HM.out.2.2.1).marked x hx0 (by omega))
   have c0 := HM.out.2.1.cell k hlt
   replace e1 := qq.mk e1
   clear hT hT2 hx0 hx
   go_wp2_with (first | (go_at_call 26;(with_reducible refine C1.out.mono ?_);rintro e wa ⟨rfl,hm,hc⟩;have M1 := qq.mk (And.intro hm hc);clear hm hc;rw [← e1.out]))
   go_roundw
   case rel =>
    have hkp : ∀ b',¬ (ln k ≠ 0 ∧ b' = bk k) → b' < wr.heap.size → wa.heap[b']? = wr.heap[b']? := fun b' hb' hl => M1.out.1.kept b' hl (fun hq => hb' ⟨hq.1,hq.2.1⟩)
    have hg : ¬ (ln k ≠ 0 ∧ g = bk k) := fun hq => by
     obtain ⟨A,c',_,_,hf⟩ := (HR.out k hlt).form
     exact (hf.resolve_left hq.1).2.2.1 hq.2.symm
    refine ⟨k + 1,x1,by omega,rfl,by go_num,⟨HX.out,HM.out.2.1.keep (hkp g hg HM.out.2.1.lt),HM.out.2.2.1.trans (M1.out.1.mono (fun q hq => ⟨hq.2.2.1,hq.2.2.2⟩)),?_⟩⟩
    intro i hi q hq
    by_cases hik : i = k
    ·subst hik
     rw [← HM.out.1]
     exact M1.out.2 q hq
    ·have hin : i < n := by omega
     have hik2 : i < k := by omega
     have hne : bk i ≠ bk k ∨ ln k = 0 := by
      by_cases hz : ln k = 0
      ·exact .inr hz
      ·exact .inl (HD.out i k hin hlt hik (by omega) hz)
     obtain ⟨A,c',_,_,hf⟩ := ((HR.out i hin).mk_ HM.out.2.2.1).form
     obtain ⟨_,_,_,cur,hb,hs⟩ := hf.resolve_left (by omega)
     have hsame : wa.heap[bk i]? = wr.heap[bk i]? := hkp (bk i) (fun h2 => hne.elim (fun h3 => h3 h2.2) (fun h3 => h2.1 h3)) (blk_lt hb)
     exact (qw (hsame.trans hb) q).trans ((qw hb q).symm.trans (HM.out.2.2.2 i hik2 q hq))
   case measure => simp [intOf];omega
  ·obtain rfl : k = n := by omega
   obtain rfl := HM.out.1
   go_wp2
   go_ret
   exact ⟨rfl,HM.out.2.2⟩
theorem mrow_of_R {ok : Nat → Prop} {g base : Nat} {w : World} {v : Value} {xs : List Int} (h : Kd.R (Kd.int .u8) 5 w base (fun k => ok k ∧ k ≠ g) v xs) : MRow ok g (v.ownBlock.getD 0) xs.length v w ∧ (xs.length ≠ 0 → ok (v.ownBlock.getD 0)) := by
 obtain ⟨inner,ho⟩ := Kd.R_own h
 rcases ho.2 with ⟨rfl,hz⟩ | ⟨b,cap,cur,rfl,hb,hh,h1,h2,h3,h4⟩
 ·exact ⟨⟨⟨none,0,by rw [hz],by omega,.inl hz⟩⟩,fun hn => absurd hz hn⟩
 ·have hk := h.1 b rfl
  have hcap : xs.length ≤ cap := (Kd.R_reads' h).2.1
  exact ⟨⟨⟨_,cap,rfl,hcap,.inr ⟨rfl,hk.1,hk.2,cur,hh,by rw [h3];show xs.length ≤ cap * 1;omega⟩⟩⟩,fun _ => hk.1⟩
theorem rows_of_S {P : Nat → Prop} {base : Nat} {w : World} {v : Value} {l : List (List Int)} (hS : Kd.S (Kd.slice 5 (Kd.int .u8)) 22 w base P v l) (hz : l.length ≠ 0) :
  ∃ (g c : Nat) (sl : Nat → Value),v = .slice (some ⟨g,0,none⟩) l.length c ∧ P g ∧ MCells g 22 l.length sl w ∧ (∀ i,i < l.length → MRow P g ((sl i).ownBlock.getD 0) (l.getD i []).length (sl i) w) ∧
   ∀ i j,i < l.length → j < l.length → i ≠ j → (l.getD i []).length ≠ 0 → (l.getD j []).length ≠ 0 → (sl i).ownBlock.getD 0 ≠ (sl j).ownBlock.getD 0 := by
 obtain ⟨f,h0,inner,ho,hr⟩ := hS
 rw [List.length_zipIdx] at ho
 rcases ho.2 with ⟨rfl,hl⟩ | ⟨g,cap,cur,rfl,hb,hh,q1,q2,q3,q4⟩
 ·exact absurd hl hz
 have hsz : (Kd.tag f (Kd.slice 5 (Kd.int .u8))).sz = 1 := rfl
 rw [hsz] at q3 q4
 have helem : ∀ i,i < l.length → ∃ v',inner[i]? = some v' ∧ Kd.R (Kd.int .u8) 5 w base (fun k => (P k ∧ f k = i) ∧ k ≠ g) v' (l.getD i []) := by
  intro i hi
  have hx : l.zipIdx[i]? = some (l.getD i [],i) := Kd.zip_at (by simp [List.getD_eq_getElem?_getD,List.getElem?_eq_getElem hi])
  obtain ⟨v',hcs,r⟩ := hr.2 i _ hx
  rw [hsz] at hcs
  have e : ((inner.drop (i * 1)).take 1)[0]? = some v' := by rw [hcs];rfl
  rw [List.getElem?_take_of_lt (by omega),List.getElem?_drop,Nat.mul_one,Nat.add_zero] at e
  exact ⟨v',e,Kd.R_mono r (fun k hk => ⟨⟨hk.1.1,hk.2⟩,fun e => hk.1.2 (by rw [e];rfl)⟩)⟩
 have hcur : ∀ (q : Nat) (v : Value),inner[q]? = some v → cur[q]? = some v := by
  intro q v hq
  rw [← q4] at hq
  have hq2 : q < l.length * 1 := by
   have := (List.getElem?_eq_some_iff.1 hq).1
   rw [List.length_take] at this
   omega
  rw [List.getElem?_take_of_lt hq2] at hq
  simpa using hq
 refine ⟨g,cap,fun i => (inner[i]?).getD undef,rfl,h0 g rfl,⟨⟨cur,hh,fun i hi => ?_⟩⟩,fun i hi => ?_,fun i j hi hj hij hni hnj => ?_⟩
 ·obtain ⟨v',e,_⟩ := helem i hi
  rw [hcur _ _ e,e];rfl
 ·obtain ⟨v',e,r⟩ := helem i hi
  simp only [e]
  exact (mrow_of_R (Kd.R_mono (ok' := fun k => P k ∧ k ≠ g) r (fun k hk => ⟨hk.1.1,hk.2⟩))).1
 ·obtain ⟨v1,e1,r1⟩ := helem i hi
  obtain ⟨v2,e2,r2⟩ := helem j hj
  simp only [e1,e2]
  intro he
  have g1 := (mrow_of_R r1).2 hni
  have g2 := (mrow_of_R r2).2 hnj
  simp only [Option.getD_some] at he
  rw [he] at g1
  exact hij (g1.2.symm.trans g2.2)
def markRows (l : List (List Int)) (a1 : Int) : List (List Int) := (List.range l.length).map (fun i => (List.range (l.getD i []).length).map (markAt (a1 + totL (fun i => (l.getD i []).length) i)))
theorem marked_V {P : Nat → Prop} {base g c : Nat} {sl : Nat → Value} {l : List (List Int)} {a1 : Int} {w : World} (hlc : l.length ≤ c) (hn : l.length ≤ 1000000000) (hg : P g) (hI : MCells g 22 l.length sl w)
  (hr : ∀ i,i < l.length → MRow P g ((sl i).ownBlock.getD 0) (l.getD i []).length (sl i) w) (hb : ∀ i,i < l.length → (l.getD i []).length ≤ 1000000000)
  (hc : ∀ i,i < l.length → ∀ q,q < (l.getD i []).length → w.cell? ⟨(sl i).ownBlock.getD 0,q,none⟩ = some (.int .u8 (markAt (a1 + totL (fun i => (l.getD i []).length) i) q))) :
  Kd.V (Kd.slice 5 (Kd.int .u8)) 22 w base P (.slice (some ⟨g,0,none⟩) l.length c) (markRows l a1) := by
 have hlen : (markRows l a1).length = l.length := by simp [markRows]
 refine ⟨some ⟨g,0,none⟩,c,by rw [hlen],by omega,?_⟩
 rw [hlen]
 intro W' hW
 refine ⟨hlen,by omega,fun _ => ⟨_,rfl,fun j p hp => ?_⟩⟩
 have hj : j < l.length := by have := (List.getElem?_eq_some_iff.1 hp).1;omega
 have hpe : p = (List.range (l.getD j []).length).map (markAt (a1 + totL (fun i => (l.getD i []).length) j)) := by
  simp only [markRows,List.getElem?_map,List.getElem?_range hj,Option.map_some,Option.some.injEq] at hp
  exact hp.symm
 have hpl : p.length = (l.getD j []).length := by rw [hpe];simp
 have hI' := hI.keep (hW g hg hI.lt)
 refine ⟨[sl j],rfl,?_,fun i u hu => ?_⟩
 ·obtain ⟨A,c',e,hle,hf⟩ := (hr j hj).form
  refine ⟨A,c',by rw [hpl,e],by omega,⟨rfl,by have := hb j hj;omega,fun hpos => ?_⟩⟩
  obtain ⟨eA,h1,h2,cur,h3,h4⟩ := hf.resolve_left (by omega)
  refine ⟨_,eA,fun q x hx => ⟨[.int .u8 x],rfl,rfl,fun i u hu => ?_⟩⟩
  have hq : q < (l.getD j []).length := by have := (List.getElem?_eq_some_iff.1 hx).1;omega
  have hxe : x = markAt (a1 + totL (fun i => (l.getD i []).length) j) q := by
   rw [hpe] at hx
   simp only [List.getElem?_map,List.getElem?_range hq,Option.map_some,Option.some.injEq] at hx
   exact hx.symm
  obtain ⟨rfl,rfl⟩ : i = 0 ∧ u = .int .u8 x := by
   cases i with
   | zero => exact ⟨rfl,by simpa using hu.symm⟩
   | succ i => simp at hu
  have hs := (hW _ h1 (blk_lt h3)).trans h3
  rw [hxe]
  rw [show (Kd.int .u8).sz = 1 from rfl,add_at,Nat.mul_one,Nat.add_zero,Nat.zero_add]
  exact (qw hs q).trans ((qw h3 q).symm.trans (hc j hj q hq))
 ·obtain ⟨rfl,rfl⟩ : i = 0 ∧ u = sl j := by
   cases i with
   | zero => exact ⟨rfl,by simpa using hu.symm⟩
   | succ i => simp at hu
  rw [show (Kd.slice 5 (Kd.int .u8)).sz = 1 from rfl,add_at,Nat.mul_one,Nat.add_zero,Nat.zero_add]
  exact hI'.cell j hj
def lenSS (l : List (List Int)) : Nat → Nat := fun i => (l.getD i []).length
set_option maxHeartbeats 2000000 in
set_option maxRecDepth 100000 in
theorem markSS_nil (A : Option Addr) (c : Nat) (a1 : Int) (w : World) :
  Calls Try.prog 42 #[.slice A 0 c,.int .i64 a1] w fun e w' => e = .returned (.int .i64 a1) ∧ w' = w := by
 go_enter Try.func42,Try.ntmps42
 go_wp2
 go_loopw [1,5] (fun v1 v5 W => v1 = .int .i64 a1 ∧ v5 = .int .i64 0 ∧ qq (W = w)) (fun _ _ _ => 0)
 case atStart => exact ⟨rfl,rfl,⟨rfl⟩⟩
 case round =>
  obtain ⟨rfl,rfl,HM⟩ := hrel
  go_wp2
  go_ret
  exact ⟨rfl,HM.out⟩
def qzw.f (l : List (List Int)) (a1 : Int) : Option Int := if 0 ≤ a1 ∧ a1 + totL (lenSS l) l.length ≤ 4611686018427387904 ∧ l.length ≤ 1000000000 ∧ ∀ i,i < l.length → lenSS l i ≤ 1000000000 then some (a1 + totL (lenSS l) l.length) else none
theorem qzw.callsS (P : Nat → Prop) (base : Nat) (v : Value) (l : List (List Int)) (a1 r : Int) (w : World) (hS : Kd.S (Kd.slice 5 (Kd.int .u8)) 22 w base P v l) (h : qzw.f l a1 = some r) :
  Calls Try.prog 42 #[v,.int .i64 a1] w fun e w' => e = .returned (.int .i64 r) ∧ MkS P w w' ∧ Kd.V (Kd.slice 5 (Kd.int .u8)) 22 w' base P v (markRows l a1) := by
 unfold qzw.f at h
 by_cases hc : 0 ≤ a1 ∧ a1 + totL (lenSS l) l.length ≤ 4611686018427387904 ∧ l.length ≤ 1000000000 ∧ ∀ i,i < l.length → lenSS l i ≤ 1000000000
 case neg => rw [if_neg hc] at h;cases h
 rw [if_pos hc] at h
 obtain rfl := Option.some.inj h
 by_cases hz : l.length = 0
 ·obtain rfl : l = [] := List.eq_nil_of_length_eq_zero hz
  obtain ⟨A,c,rfl⟩ := Kd.S_slice hS
  refine (markSS_nil A c a1 w).mono ?_
  rintro e w' ⟨rfl,rfl⟩
  exact ⟨by simp [totL],MkS.refl _ _,Kd.S_V hS⟩
 obtain ⟨g,c,sl,rfl,hg,hI,hr,hd⟩ := rows_of_S hS hz
 have hlc : l.length ≤ c := (Kd.S_reads' hS).2.1
 refine (markSS_raw g 22 l.length c (fun i => (sl i).ownBlock.getD 0) (lenSS l) sl P w a1 hI hr hd hc.1 hc.2.1 hc.2.2.1).mono ?_
 rintro e w' ⟨rfl,hm,hcells⟩
 refine ⟨rfl,hm.mono (fun k hk => hk.1),marked_V hlc hc.2.2.1 hg (hI.keep (hm.kept g hI.lt (fun hk => hk.2 rfl))) (fun i hi => (hr i hi).mk_ hm) hc.2.2.2 hcells⟩
def qjq.l0 : Nat → Int → ByteArray → Option (ByteArray)
 | 0,_,_ => none
 | k + 1,x0,x3 => if x0 > 0 then ((some (([(wrap64 (48 + (Int.tmod x0 10))) % 256] : List Int) : List Int)).bind fun y101 => (if (strOfNums y101).size + x3.size ≤ 9223372036854775807 then (qjq.l0 k (wrap64 (Int.tdiv x0 10)) ((strOfNums y101) ++ x3)) else (none))) else (if 1 + x3.size ≤ 9223372036854775807 then (some ((⟨#[109]⟩ : ByteArray) ++ x3)) else (none))
def qjq.f (k : Nat) (a0 : Int) : Option (ByteArray) := if a0 ≤ 0 then (some (⟨#[109,48]⟩ : ByteArray)) else (qjq.l0 k a0 (⟨#[]⟩ : ByteArray))
set_option maxHeartbeats 8000000 in
set_option maxRecDepth 100000 in
theorem qjq.calls (k : Nat) (a0 : Int) (r : ByteArray) (w : World) (h : qjq.f k a0 = some r) :
  Calls Try.prog 84 #[.int .i64 a0] w fun e w' => e = .returned (.string r) ∧ Below w.heap.size w w' := by
 have HB := qq.mk (Below.refl w.heap.size w)
 have H : (if a0 ≤ 0 then (some (⟨#[109,48]⟩ : ByteArray)) else (qjq.l0 k a0 (⟨#[]⟩ : ByteArray))) = some r := h
 clear h
 by_cases c2 : a0 ≤ 0
 ·rw [if_pos c2] at H
  have c2b0 : decide (a0 ≤ 0) = true := decide_eq_true c2
  clear c2
  obtain rfl := Option.some.inj H
  go_enter Try.func84,Try.ntmps84
  go_wp2
  go_ret
  exact ⟨by first | rfl | (simp [*,jk,jj] <;> rfl),by repeat (first | (with_reducible first | exact HB.out | apply qj | apply qz | apply qk) | exact HB.out)⟩
 ·rw [if_neg c2] at H
  have c2b0 : decide (a0 ≤ 0) = false := decide_eq_false c2
  clear c2
  have H' := qq.mk H
  clear H
  go_enter Try.func84,Try.ntmps84
  go_wp2
  go_loopg [0,3] k (fun kq v0 v3 w' => ∃ (x0_1 : Int) (x3_1 : ByteArray),v0 = .int .i64 x0_1 ∧ v3 = .string x3_1 ∧ qq (qjq.l0 kq x0_1 x3_1 = some r) ∧ qq (kq ≤ k) ∧ qq (Below w.heap.size w w'))
  case atStart => exact ⟨(a0),((⟨#[]⟩ : ByteArray)),(by first | rfl | (simp;done) | (simp [*];done)),(by first | rfl | (simp;done) | (simp [*];done)),H',⟨Nat.le_refl _⟩,⟨by repeat (first | (with_reducible first | exact HB.out | apply qj | apply qz | apply qk) | exact HB.out)⟩⟩
  case round =>
   clear H'
   try clear c2
   try clear c2b0
   try clear p2
   obtain ⟨x0_1,x3_1,rfl,rfl,HA,HK1,HB⟩ := hrel
   cases gk with
   | zero => exact absurd HA.out (by simp [qjq.l0])
   | succ k1 =>
    have H := HA.out
    clear HA
    simp only [qjq.l0] at H
    by_cases c3 : x0_1 > 0
    ·rw [if_pos c3] at H
     have c3b0 : decide (0 < x0_1) = true := decide_eq_true c3
     clear c3
     obtain ⟨y101,hy101⟩ : ∃ y_ : List Int,y_ = (([(wrap64 (48 + (Int.tmod x0_1 10))) % 256] : List Int)) := ⟨_,rfl⟩
     replace H : (if (strOfNums y101).size + x3_1.size ≤ 9223372036854775807 then (qjq.l0 k1 (wrap64 (Int.tdiv x0_1 10)) ((strOfNums y101) ++ x3_1)) else (none)) = some r := by first | (rw [hy101];with_reducible exact H) | (have H2_ := (Option.bind_some _ _).symm.trans H;rw [hy101];with_reducible exact H2_) | (have H2_ := (Option.bind_some _ _).symm.trans H;with_reducible exact H2_) | with_reducible exact H | (rw [hy101];exact H) | exact H
     have Ny101 := qq.mk hy101
     clear hy101
     by_cases c4 : (strOfNums y101).size + x3_1.size ≤ 9223372036854775807
     ·rw [if_pos c4] at H
      have c4b0 := eq_true c4
      have c4b1 : decide ((strOfNums y101).size + x3_1.size ≤ 9223372036854775807) = true := decide_eq_true c4
      try have c4b2 : (9223372036854775807 < (strOfNums y101).size + x3_1.size) = False := eq_false (Nat.not_lt.2 c4)
      have H' := qq.mk H
      clear H
      go_wp2_with (first | ((with_reducible refine gate_dst (N := 12) rfl ?_);refine Kd.R_lit (Kd.int .u8) _ 5 ?hg (N := 12) ?hd (xs := ([(wrap64 (48 + (Int.tmod x0_1 10))) % 256] : List Int)) (inner := [.int .u8 ((wrap64 (48 + (Int.tmod x0_1 10))) % 256)]) (ok := fun _ => True) (okp := fun _ => True) ?hr ?hp (fun _ hk => hk) trivial (Below.refl _ _) (Nat.le_refl _) (by simp) ?_;(case hd => rfl);(case hg => rfl);(case hr => first | (go_simp;done) | (go_simp;rfl));(case hp => exact (Reps.one (show Kd.M (Kd.int .u8) _ _ _ ((wrap64 (48 + (Int.tmod x0_1 10))) % 256) [.int .u8 ((wrap64 (48 + (Int.tmod x0_1 10))) % 256)] from rfl) (Reps.none _ _)));intro v102 w5 ho6 hb hg_ hnew_;clear hg_ hnew_;(first | rw [← Ny101.out] at ho6 | (simp only [Int.reduceToNat] at ho6;rw [← Ny101.out] at ho6));have n0_ := qq.mk (Kd.R_lower ho6 (zw (by repeat (first | (with_reducible first | exact HB.out | apply qj | apply qz | apply qk) | exact HB.out))));have n1_ := qq.mk (zv (by repeat (first | (with_reducible first | exact HB.out | apply qj | apply qz | apply qk) | exact HB.out)) hb);clear HB;have HO103 := n0_;have HB := n1_;clear n0_ n1_;clear hb ho6;have hcv7 := own_string (P := Try.prog) Try.underlying22 Try.underlying5 Try.underlying9 (Kd.own_of_R HO103.out)))
      go_roundg k1
      case measure => have := HK1.out;omega
      case rel => exact ⟨(wrap64 (Int.tdiv x0_1 10)),((strOfNums y101) ++ x3_1),(by first | rfl | (simp;done) | (simp [*];done)),(by first | rfl | (simp;done) | (simp [*];done)),H',⟨by have := HK1.out;omega⟩,⟨by repeat (first | (with_reducible first | exact HB.out | apply qj | apply qz | apply qk) | exact HB.out)⟩⟩
     ·rw [if_neg c4] at H
      exact absurd H (by simp)
    ·rw [if_neg c3] at H
     have c3b0 : decide (0 < x0_1) = false := decide_eq_false c3
     clear c3
     by_cases c8 : 1 + x3_1.size ≤ 9223372036854775807
     ·rw [if_pos c8] at H
      have c8b0 := eq_true c8
      have c8b1 : decide (1 + x3_1.size ≤ 9223372036854775807) = true := decide_eq_true c8
      try have c8b2 : (9223372036854775807 < 1 + x3_1.size) = False := eq_false (Nat.not_lt.2 c8)
      obtain rfl := Option.some.inj H
      go_wp2
      go_ret
      exact ⟨by first | rfl | (simp [*,jk,jj] <;> rfl),by repeat (first | (with_reducible first | exact HB.out | apply qj | apply qz | apply qk) | exact HB.out)⟩
     ·rw [if_neg c8] at H
      exact absurd H (by simp)
theorem mt_l0 (d : Nat) : ∀ (n : Int) (t : ByteArray),0 ≤ n → n < 10 ^ d → n ≤ 9223372036854775807 → t.size + d ≤ 1000 → ∃ r,∀ k,d < k → qjq.l0 k n t = some r := by
 induction d with
 | zero =>
  intro n t h0 h1 hb ht
  refine ⟨(⟨#[109]⟩ : ByteArray) ++ t,fun k hk => ?_⟩
  obtain ⟨k,rfl⟩ : ∃ m,k = m + 1 := ⟨k - 1,by omega⟩
  rw [qjq.l0,if_neg (by simp at h1;omega),if_pos (by omega)]
 | succ d ih =>
  intro n t h0 h1 hb ht
  by_cases hz : n > 0
  ·have hs : (strOfNums [(wrap64 (48 + (Int.tmod n 10))) % 256]).size = 1 := rfl
   have ew : wrap64 (Int.tdiv n 10) = n / 10 := by
    rw [Int.tdiv_eq_ediv_of_nonneg h0]
    unfold wrap64;omega
   obtain ⟨r,e⟩ := ih (n / 10) ((strOfNums [(wrap64 (48 + (Int.tmod n 10))) % 256]) ++ t) (by omega) (by rw [Int.pow_succ] at h1;omega) (by omega) (by rw [ByteArray.size_append,hs];omega)
   refine ⟨r,fun k hk => ?_⟩
   obtain ⟨k,rfl⟩ : ∃ m,k = m + 1 := ⟨k - 1,by omega⟩
   rw [qjq.l0,if_pos hz,Option.bind_some,hs,if_pos (by omega),ew]
   exact e k (by omega)
  ·refine ⟨(⟨#[109]⟩ : ByteArray) ++ t,fun k hk => ?_⟩
   obtain ⟨k,rfl⟩ : ∃ m,k = m + 1 := ⟨k - 1,by omega⟩
   rw [qjq.l0,if_neg hz,if_pos (by omega)]
theorem mt_some (n : Int) (h0 : 0 ≤ n) (h1 : n ≤ 4611686018427387904) : ∃ (k : Nat) (r : ByteArray),qjq.f k n = some r := by
 by_cases hz : n ≤ 0
 ·exact ⟨0,_,if_pos hz⟩
 ·obtain ⟨r,e⟩ := mt_l0 19 n (⟨#[]⟩ : ByteArray) h0 (by omega) (by omega) (by decide)
  exact ⟨20,r,(if_neg hz).trans (e 20 (by omega))⟩
structure MkI (g n : Nat) (sl3 sl4 : Nat → Value) (W : World) : Prop where
 blk : ∃ cs : Array Value,W.heap[g]? = some (.cells cs 27 (0,0)) ∧ n * 5 ≤ cs.size ∧ (∀ i,i < n → cs[i * 5 + 3]? = some (sl3 i)) ∧ ∀ i,i < n → cs[i * 5 + 4]? = some (sl4 i)
section
variable {g n : Nat} {sl3 sl4 : Nat → Value} {W W' : World}
theorem MkI.cell (h : MkI g n sl3 sl4 W) (i j : Nat) (hi : i < n) (hj : j < 5) : ∃ u,W.cell? ⟨g,i * 5 + j,none⟩ = some u := by
 obtain ⟨cs,hb,hs,_⟩ := h.blk
 exact ⟨_,(qw hb _).trans (Array.getElem?_eq_getElem (by omega))⟩
theorem MkI.c3 (h : MkI g n sl3 sl4 W) (i : Nat) (hi : i < n) : W.cell? ⟨g,i * 5 + 3,none⟩ = some (sl3 i) := by
 obtain ⟨cs,hb,hs,h3,_⟩ := h.blk
 exact (qw hb _).trans (h3 i hi)
theorem MkI.c4 (h : MkI g n sl3 sl4 W) (i : Nat) (hi : i < n) : W.cell? ⟨g,i * 5 + 4,none⟩ = some (sl4 i) := by
 obtain ⟨cs,hb,hs,_,h4⟩ := h.blk
 exact (qw hb _).trans (h4 i hi)
theorem MkI.fz (h : MkI g n sl3 sl4 W) (q : Nat) : W.frozen? ⟨g,q,none⟩ = false := by
 obtain ⟨cs,hb,_⟩ := h.blk
 exact qv hb q
theorem MkI.keep (h : MkI g n sl3 sl4 W) (hk : W'.heap[g]? = W.heap[g]?) : MkI g n sl3 sl4 W' := by
 obtain ⟨cs,hb,r⟩ := h.blk
 exact ⟨⟨cs,hk.trans hb,r⟩⟩
theorem MkI.lt (h : MkI g n sl3 sl4 W) : g < W.heap.size := by
 obtain ⟨cs,hb,r⟩ := h.blk
 exact blk_lt hb
theorem MkI.set (h : MkI g n sl3 sl4 W) (i j : Nat) (hj : j < 3) (u : Value) : MkI g n sl3 sl4 (W.setCell ⟨g,i * 5 + j,none⟩ u) := by
 obtain ⟨cs,hb,hs,h3,h4⟩ := h.blk
 refine ⟨⟨_,blk_set hb (i * 5 + j) u,by simpa using hs,fun q hq => ?_,fun q hq => ?_⟩⟩
 ·rw [Array.getElem?_setIfInBounds_ne (by omega)];exact h3 q hq
 ·rw [Array.getElem?_setIfInBounds_ne (by omega)];exact h4 q hq
theorem MkI.setS (h : MkI g n sl3 sl4 W) {S : Nat → Prop} (hS : S g) (q : Nat) (u : Value) : MkS S W (W.setCell ⟨g,q,none⟩ u) := by
 obtain ⟨cs,hb,_⟩ := h.blk
 exact MkS.set hb hS q u
end
def mkTot (l3 l4 : Nat → Nat) : Nat → Nat
 | 0 => 0
 | i + 1 => mkTot l3 l4 i + 3 + l3 i + l4 i
theorem mkTot_le (l3 l4 : Nat → Nat) {i n : Nat} (h : i ≤ n) : mkTot l3 l4 i ≤ mkTot l3 l4 n := by
 induction n with
 | zero => rw [show i = 0 by omega];exact Nat.le_refl _
 | succ n ih =>
  by_cases h2 : i = n + 1
  ·rw [h2];exact Nat.le_refl _
  ·have := ih (by omega)
   show _ ≤ mkTot l3 l4 n + 3 + l3 n + l4 n
   omega
set_option maxHeartbeats 4000000 in
set_option maxRecDepth 100000 in
theorem marks_raw (g n c : Nat) (l3 l4 : Nat → Nat) (sl3 sl4 : Nat → Value) (ok : Nat → Prop) (w : World) (a1 : Int) (hI : MkI g n sl3 sl4 w) (hg : ok g) (hr3 : ∀ i,i < n → RowAt ok g w (sl3 i) (l3 i)) (hr4 : ∀ i,i < n → RowAt ok g w (sl4 i) (l4 i)) (h0 : 0 ≤ a1) (h1 : a1 + mkTot l3 l4 n ≤ 4611686018427387904) (hn : n ≤ 4611686018427387904) :
  Calls Try.prog 38 #[.slice (some ⟨g,0,none⟩) n c,.int .i64 a1] w fun e w' => e = .returned (.int .i64 (a1 + mkTot l3 l4 n)) ∧ MkS ok w w' := by
 have HI := qq.mk hI
 have HG := qq.mk hg
 have H3 := qq.mk hr3
 have H4 := qq.mk hr4
 have H1 := qq.mk (And.intro h0 h1)
 clear hI hg hr3 hr4 h0 h1
 go_enter Try.func38,Try.ntmps38
 go_wp2
 go_loopw [1,5] (fun v1 v5 W => ∃ (k : Nat) (x : Int),k ≤ n ∧ v1 = .int .i64 x ∧ v5 = .int .i64 k ∧ qq (x = a1 + mkTot l3 l4 k ∧ MkI g n sl3 sl4 W ∧ MkS ok w W)) (fun _ v5 _ => n - (intOf v5).toNat)
 case atStart => exact ⟨0,a1,by omega,rfl,rfl,⟨by simp [mkTot],HI.out,MkS.refl _ _⟩⟩
 case round =>
  obtain ⟨k,x,hk,rfl,rfl,HM⟩ := hrel
  by_cases hlt : k < n
  ·have hT : a1 + mkTot l3 l4 (k + 1) ≤ 4611686018427387904 := by
    have := H1.out
    have := mkTot_le l3 l4 (show k + 1 ≤ n by omega)
    omega
   have hT2 : mkTot l3 l4 (k + 1) = mkTot l3 l4 k + 3 + l3 k + l4 k := rfl
   have hx0 : 0 ≤ x := by have := HM.out.1;have := H1.out;omega
   obtain ⟨x1,e1⟩ : ∃ x1,x1 = x + 1 := ⟨_,rfl⟩
   obtain ⟨x2,e2⟩ : ∃ x2,x2 = x1 + 1 := ⟨_,rfl⟩
   obtain ⟨x3,e3⟩ : ∃ x3,x3 = x2 + 1 := ⟨_,rfl⟩
   obtain ⟨x4,e4⟩ : ∃ x4,x4 = x3 + l3 k := ⟨_,rfl⟩
   obtain ⟨x5,e5⟩ : ∃ x5,x5 = x4 + l4 k := ⟨_,rfl⟩
   have hx := HM.out.1
   have w1 : wrap64 (x + 1) = x1 := by rw [e1];unfold wrap64;omega
   have w2 : wrap64 (x1 + 1) = x2 := by rw [e2];unfold wrap64;omega
   have w3 : wrap64 (x2 + 1) = x3 := by rw [e3];unfold wrap64;omega
   have w1w : IntKind.i64.wrap (x + 1) = x1 := (i64_w _).trans w1
   have w2w : IntKind.i64.wrap (x1 + 1) = x2 := (i64_w _).trans w2
   have w3w : IntKind.i64.wrap (x2 + 1) = x3 := (i64_w _).trans w3
   obtain ⟨k1,t1,m1⟩ := mt_some x1 (by omega) (by omega)
   obtain ⟨k2,t2,m2⟩ := mt_some x2 (by omega) (by omega)
   have C1 := qq.mk (fun W => qjq.calls k1 x1 t1 W m1)
   have C2 := qq.mk (fun W => qjq.calls k2 x2 t2 W m2)
   have C3 := qq.mk (fun (W : World) (hm : MkS ok w W) => markB_at ((H3.out k hlt).mk_ hm) x3 (by omega) (by omega))
   have C4 := qq.mk (fun (W : World) (hm : MkS ok w W) => markB_at ((H4.out k hlt).mk_ hm) x4 (by omega) (by omega))
   have HX5 : qq (x5 = a1 + mkTot l3 l4 (k + 1)) := ⟨by omega⟩
   replace e4 := qq.mk e4
   replace e5 := qq.mk e5
   clear hT hT2 hx0 e1 e2 e3 hx m1 m2
   obtain ⟨y0,c0⟩ := HM.out.2.1.cell k 0 hlt (by omega)
   rw [Nat.add_zero] at c0
   have f0 := HM.out.2.1.fz (k * 5)
   go_wp2_with (first | (go_at_call 84;(with_reducible refine (C1.out _).mono ?_);rintro e wa ⟨rfl,hb⟩;have I1 := qq.mk ((HM.out.2.1.set k 0 (by omega) _).keep (hb.block _ (HM.out.2.1.set k 0 (by omega) _).lt));have M1 := qq.mk ((HM.out.2.2.trans (HM.out.2.1.setS HG.out (k * 5 + 0) _)).trans (MkS.below ok hb));clear hb;obtain ⟨y1,c1⟩ := I1.out.cell k 1 hlt (by omega);have f1 := I1.out.fz (k * 5 + 1)) | (go_at_call 84;(with_reducible refine (C2.out _).mono ?_);rintro e wb ⟨rfl,hb⟩;have I2 := qq.mk ((I1.out.set k 1 (by omega) _).keep (hb.block _ (I1.out.set k 1 (by omega) _).lt));have M2 := qq.mk ((M1.out.trans (I1.out.setS HG.out (k * 5 + 1) _)).trans (MkS.below ok hb));clear hb;obtain ⟨y2,c2⟩ := I2.out.cell k 2 hlt (by omega);have f2 := I2.out.fz (k * 5 + 2);have I3 := qq.mk (fun u => I2.out.set k 2 (by omega) u);have M3 := qq.mk (fun u => M2.out.trans (I2.out.setS HG.out (k * 5 + 2) u));have c3 : ∀ u,(wb.setCell ⟨g,k * 5 + 2,none⟩ u).cell? ⟨g,k * 5 + 3,none⟩ = some (sl3 k) := fun u => (I3.out u).c3 k hlt) | (go_at_call 26;(with_reducible refine (C4.out _ M4.out).mono ?_);rintro e wd ⟨rfl,hm⟩;have I5 := qq.mk (I4.out.keep (hm.kept g I4.out.lt (fun h : ok g ∧ g ≠ g => h.2 rfl)));have M5 := qq.mk (M4.out.trans (hm.mono (fun _ h => h.1)));clear hm;rw [← e5.out]) | (go_at_call 26;(with_reducible refine (C3.out _ (M3.out _)).mono ?_);rintro e wc ⟨rfl,hm⟩;have I4 := qq.mk ((I3.out _).keep (hm.kept g (I3.out _).lt (fun h : ok g ∧ g ≠ g => h.2 rfl)));have M4 := qq.mk ((M3.out _).trans (hm.mono (fun _ h => h.1)));clear hm;have c4 := I4.out.c4 k hlt;rw [← e4.out]))
   go_roundw
   case rel => exact ⟨k + 1,x5,by omega,rfl,by go_num,⟨HX5.out,I5.out,M5.out⟩⟩
   case measure => simp [intOf];omega
  ·obtain rfl : k = n := by omega
   obtain rfl := HM.out.1
   go_wp2
   go_ret
   exact ⟨rfl,HM.out.2.2⟩
set_option maxHeartbeats 2000000 in
set_option maxRecDepth 100000 in
theorem marks_nil (A : Option Addr) (c : Nat) (a1 : Int) (w : World) :
  Calls Try.prog 38 #[.slice A 0 c,.int .i64 a1] w fun e w' => e = .returned (.int .i64 a1) ∧ w' = w := by
 go_enter Try.func38,Try.ntmps38
 go_wp2
 go_loopw [1,5] (fun v1 v5 W => v1 = .int .i64 a1 ∧ v5 = .int .i64 0 ∧ qq (W = w)) (fun _ v5 _ => 0)
 case atStart => exact ⟨rfl,rfl,⟨rfl⟩⟩
 case round =>
  obtain ⟨rfl,rfl,HM⟩ := hrel
  go_wp2
  go_ret
  exact ⟨rfl,HM.out⟩
def markTot (l : List S27) : Nat := mkTot (fun i => (wj l (i : Int)).f3.length) (fun i => (wj l (i : Int)).f4.length) l.length
def qzx.f (l : List S27) (a1 : Int) : Option Int := if 0 ≤ a1 ∧ a1 + markTot l ≤ 4611686018427387904 ∧ l.length ≤ 1000000000 then some (a1 + markTot l) else none
theorem qzx.callsR (P : Nat → Prop) (base : Nat) (v : Value) (l : List S27) (a1 r : Int) (w : World) (hR : Kd.R k27 27 w base P v l) (h : qzx.f l a1 = some r) :
  Calls Try.prog 38 #[v,.int .i64 a1] w fun e w' => e = .returned (.int .i64 r) ∧ MkS P w w' := by
 unfold qzx.f at h
 by_cases hc : 0 ≤ a1 ∧ a1 + markTot l ≤ 4611686018427387904 ∧ l.length ≤ 1000000000
 case neg => rw [if_neg hc] at h;cases h
 rw [if_pos hc] at h
 obtain rfl := Option.some.inj h
 by_cases hz : l.length = 0
 ·obtain ⟨A,c,rfl⟩ := Kd.R_slice hR
  have ht : markTot l = 0 := by unfold markTot;rw [hz];rfl
  rw [hz,ht]
  refine (marks_nil A c a1 w).mono ?_
  rintro e w' ⟨rfl,rfl⟩
  exact ⟨by simp,MkS.refl _ _⟩
 obtain ⟨h0,inner,ho,hr⟩ := hR
 have hsz : k27.sz = 5 := rfl
 rcases ho.2 with ⟨rfl,hl⟩ | ⟨g,cap,cur,rfl,hb,hh,q1,q2,q3,q4⟩
 ·exact absurd hl hz
 rw [hsz] at q3 q4
 have helem : ∀ i,i < l.length → ∃ v3 v4,inner[i * 5 + 3]? = some v3 ∧ inner[i * 5 + 4]? = some v4 ∧ RowAt P g w v3 (wj l (i : Int)).f3.length ∧ RowAt P g w v4 (wj l (i : Int)).f4.length := by
  intro i hi
  have hx : l[i]? = some (wj l (i : Int)) := by simp [wj,List.getD_eq_getElem?_getD,List.getElem?_eq_getElem hi]
  obtain ⟨v3,v4,hcs,r3,r4⟩ := k27_openM (hr.2 i _ hx)
  rw [hsz] at hcs
  have e3 : ((inner.drop (i * 5)).take 5)[3]? = some v3 := by rw [hcs];rfl
  have e4 : ((inner.drop (i * 5)).take 5)[4]? = some v4 := by rw [hcs];rfl
  rw [List.getElem?_take_of_lt (by omega),List.getElem?_drop] at e3 e4
  refine ⟨v3,v4,e3,e4,RowAt.of_R (Kd.R_mono r3 ?_),RowAt.of_R (Kd.R_mono r4 ?_)⟩
  ·exact fun k hk => ⟨hk.1,fun e => hk.2 (by rw [e];rfl)⟩
  ·exact fun k hk => ⟨hk.1,fun e => hk.2 (by rw [e];rfl)⟩
 have hcur : ∀ (q : Nat) (v : Value),inner[q]? = some v → cur[q]? = some v := by
  intro q v hq
  rw [← q4] at hq
  have hq2 : q < l.length * 5 := by
   have := (List.getElem?_eq_some_iff.1 hq).1
   rw [List.length_take] at this
   omega
  rw [List.getElem?_take_of_lt hq2] at hq
  simpa using hq
 have hI : MkI g l.length (fun i => (inner[i * 5 + 3]?).getD undef) (fun i => (inner[i * 5 + 4]?).getD undef) w := by
  refine ⟨⟨cur,hh,by omega,fun i hi => ?_,fun i hi => ?_⟩⟩
  ·obtain ⟨v3,v4,e3,e4,_⟩ := helem i hi
   rw [hcur _ _ e3,e3];rfl
  ·obtain ⟨v3,v4,e3,e4,_⟩ := helem i hi
   rw [hcur _ _ e4,e4];rfl
 refine marks_raw g l.length cap _ _ _ _ P w a1 hI (h0 g rfl) (fun i hi => ?_) (fun i hi => ?_) hc.1 hc.2.1 (by omega)
 ·obtain ⟨v3,v4,e3,e4,r3,r4⟩ := helem i hi
  simp only [e3]
  exact r3
 ·obtain ⟨v3,v4,e3,e4,r3,r4⟩ := helem i hi
  simp only [e4]
  exact r4
def bytesOfS.f (s : ByteArray) : Option (List Int) := if s.size ≤ 9223372036854775807 then some (bytesOf s) else none
def BytesCalls (P : Program) (src dst : TypeId) (s : ByteArray) (w : World) (R : Ending → World → Prop) : Prop :=
 ∃ v w',(convert src dst (.string s)).run P w = .ok v w' ∧ R (.returned v) w'
theorem BytesCalls.mono {P : Program} {src dst : TypeId} {s : ByteArray} {w : World} {R R' : Ending → World → Prop} (h : BytesCalls P src dst s w R) (hr : ∀ e w',R e w' → R' e w') : BytesCalls P src dst s w R' :=
 let ⟨v,w',h1,h2⟩ := h;⟨v,w',h1,hr _ _ h2⟩
theorem bytesOfS.calls (a0 : ByteArray) (r : List Int) (w : World) (h : bytesOfS.f a0 = some r) :
  BytesCalls Try.prog 9 22 a0 w fun e w' => ∃ v0_ : Value,e = .returned (v0_) ∧ Kd.V (Kd.int .u8) 5 w' w.heap.size (fun k_ => (w.heap.size ≤ k_)) v0_ r ∧ Below w.heap.size w w' := by
 unfold bytesOfS.f at h
 by_cases hs : a0.size ≤ 9223372036854775807
 case neg => rw [if_neg hs] at h;cases h
 rw [if_pos hs] at h
 obtain rfl := Option.some.inj h
 refine ⟨_,_,print_bytes 9 22 5 Try.underlying9 Try.underlying22 Try.underlying5 a0 w,_,rfl,?_,wv (Below.refl _ _) (Nat.le_refl _) 5 a0⟩
 have hcell : ∀ W' : World,W'.heap[w.heap.size]? = (Lib.bytesWorld w 5 a0).heap[w.heap.size]? → (Kd.int .u8).C W' (some ⟨w.heap.size,0,none⟩) (bytesOf a0).length (bytesOf a0) := by
  intro W' hW
  have h0 := ww w 5 a0 hs
  have h1 : ReadsInt W' .u8 (some ⟨w.heap.size,0,none⟩) (bytesOf a0).length (bytesOf a0) := by
   refine ⟨rfl,by rw [bytesOf_length];exact hs,fun hp => ?_⟩
   obtain ⟨ad,e1,hc⟩ := h0.2.2 (by rw [bytesOf_length] at hp;exact hp)
   refine ⟨ad,e1,fun j hj => ?_⟩
   rw [← hc j (by rw [bytesOf_length] at hj;exact hj)]
   injection e1 with e1
   subst e1
   rw [add_plain]
   exact World.cell?_of_block (by exact hW)
  exact Kd.C_of_reads (d := (0 : Int)) (h1 := fun _ => rfl) h1
 refine ⟨some ⟨w.heap.size,0,none⟩,grownCap w a0.size 0 5,by rw [bytesOf_length],by rw [bytesOf_length];exact grownCap_ge _ _ _ _,fun W' hW => hcell W' (hW _ (Nat.le_refl _) ?_)⟩
 rw [Lib.bytesWorld_size];omega
section
variable {P : Program} {ops : Array Oper} {Q : Exit → Act → World → Prop}
theorem gate_convert {rest : List Oper} {o : Oper} {a : Act} {W : World} {src dst : TypeId} {x : Operand} (_ho : o.op = .convert src dst x) (h : wpList P ops Q (o :: rest) a W) : wpList P ops Q (o :: rest) a W := h
theorem bytesGoesL_ {rest : List Oper} {oi : Oper} {a : Act} {w : World} (N : Option Tmp) (hd : oi.dst = N) (hg : oi.guard = none) {src dst : TypeId} {x : Operand} {s : ByteArray} (hop : oi.op = .convert src dst x) (hx : a.eval x = .string s)
  (h : BytesCalls P src dst s w fun e w' => ∃ v,e = .returned v ∧ wpList P ops Q rest (a.put N v) w') : wpList P ops Q (oi :: rest) a w := by
 obtain ⟨v,w',hr,v',he,hw⟩ := h
 injection he with he
 subst he
 subst hd
 refine Kd.event_run hg ?_ hw
 unfold execOp
 simp [hop,hx,hr]
theorem bytesGoes_ {oi : Oper} {N : Option Tmp} {a : Act} {w : World} {K : Act → World → Prop} {src dst : TypeId} {x : Operand} {s : ByteArray}
  (hw : Region.wanted oi (yielded ops a.tmps) = true) (hN : oi.dst = N) (hop : oi.op = .convert src dst x) (hx : a.eval x = .string s)
  (h : BytesCalls P src dst s w fun e w' => ∃ v,e = .returned v ∧ K (a.put N v) w') : if Region.wanted oi (yielded ops a.tmps) = true then Oper.wp P oi a w K Q else K (a.put N undef) w := by
 obtain ⟨v,w',hr,v',he,hk⟩ := h
 injection he with he
 subst he
 subst hN
 refine event_step hw ?_ hk
 unfold execOp
 simp [hop,hx,hr]
def BoxCalls (t : TypeId) (cs : Array Value) (w : World) (R : Ending → World → Prop) : Prop := R (.returned (.pointer (some ⟨w.heap.size,0,none⟩))) (w.alloc (.cells cs t (0,0)))
theorem BoxCalls.mono {t : TypeId} {cs : Array Value} {w : World} {R R' : Ending → World → Prop} (h : BoxCalls t cs w R) (hr : ∀ e w',R e w' → R' e w') : BoxCalls t cs w R' := hr _ _ h
end
def qvx.l0 : Nat → Int → List Int → Int → Int → Option (List Int)
 | 0,_,_,_,_ => none
 | k + 1,x0,x3,x7,x8 => if x8 < x7 then (if 0 ≤ x8 then (if x8 < (x3.length : Int) then (qvx.l0 k (wrap64 (Int.tdiv x0 256)) (x3.set (x8 : Int).toNat ((Int.tmod x0 256) % 256)) x7 (wrap64 (x8 + 1))) else (none)) else (none)) else (some x3)
def qvx.f (k : Nat) (a0 : Int) : Option (List Int) := if 4 ≤ 281474976710656 then ((some (List.replicate 4 0 : List Int)).bind fun y101 => (qvx.l0 k a0 y101 (y101.length : Int) 0)) else (none)
theorem qvx.mono_l : ∀ k,(∀ y0 y1 y2 y3,LeO (qvx.l0 k y0 y1 y2 y3) (qvx.l0 (k + 1) y0 y1 y2 y3))
 | 0 => fun _ _ _ _ r h => by simp [qvx.l0] at h
 | k + 1 => by
  have ih0 := qvx.mono_l k
  ·intro y0 y1 y2 y3
   unfold qvx.l0
   repeat' first
   | (with_reducible exact ih0 _ _ _ _)
   | (with_reducible exact LeO.refl _)
   | (with_reducible exact LeO.none _)
   | (with_reducible refine LeO.ite ?_ ?_)
   | (with_reducible refine LeO.bind ?_ (fun _ => ?_))
   | exact ih0 _ _ _ _
   | exact LeO.none _
   | refine LeO.ite ?_ ?_
   | refine LeO.bind ?_ (fun _ => ?_)
theorem qvx.mono : ∀ a0 k,LeO (qvx.f k a0) (qvx.f (k + 1) a0) := by
 intro a0 k
 have ih0 := qvx.mono_l k
 unfold qvx.f
 repeat' first
   | (with_reducible exact ih0 _ _ _ _)
   | (with_reducible exact LeO.refl _)
   | (with_reducible exact LeO.none _)
   | (with_reducible refine LeO.ite ?_ ?_)
   | (with_reducible refine LeO.bind ?_ (fun _ => ?_))
   | exact ih0 _ _ _ _
   | exact LeO.none _
   | refine LeO.ite ?_ ?_
   | refine LeO.bind ?_ (fun _ => ?_)
set_option maxHeartbeats 8000000 in
set_option maxRecDepth 100000 in
theorem qvx.calls (k : Nat) (a0 : Int) (r : List Int) (w : World) (h : qvx.f k a0 = some r) :
  Calls Try.prog 115 #[.int .i64 a0] w fun e w' => ∃ v0_ : Value,e = .returned (v0_) ∧ Kd.R (Kd.int .u8) 5 w' w.heap.size (fun _ => True) v0_ r ∧ Below w.heap.size w w' := by
 have HB := qq.mk (Below.refl w.heap.size w)
 have H : (if 4 ≤ 281474976710656 then ((some (List.replicate 4 0 : List Int)).bind fun y101 => (qvx.l0 k a0 y101 (y101.length : Int) 0)) else (none)) = some r := h
 clear h
 by_cases c2 : 4 ≤ 281474976710656
 ·rw [if_pos c2] at H
  have c2b0 := eq_true c2
  have c2b1 : decide (4 ≤ 281474976710656) = true := decide_eq_true c2
  clear c2
  obtain ⟨y101,hy101⟩ : ∃ y_ : List Int,y_ = (List.replicate 4 0) := ⟨_,rfl⟩
  replace H : (qvx.l0 k a0 y101 (y101.length : Int) 0) = some r := by first | (rw [hy101];with_reducible exact H) | (have H2_ := (Option.bind_some _ _).symm.trans H;rw [hy101];with_reducible exact H2_) | (have H2_ := (Option.bind_some _ _).symm.trans H;with_reducible exact H2_) | with_reducible exact H | (rw [hy101];exact H) | exact H
  have Ny101 := qq.mk hy101
  clear hy101
  have H' := qq.mk H
  clear H
  go_enter Try.func115,Try.ntmps115
  go_wp2_with (first | ((with_reducible refine gate_dst (N := 5) rfl ?_);refine Kd.R_make (Kd.int .u8) _ 5 rfl (N := 5) rfl 22 _ _ rfl 4 rfl rfl Try.underlying22 (.int .u8 0) 1 info5 rfl (by decide) (by omega) 0 (ok := fun _ => True) (okp := fun _ => True) rfl (fun _ hk => hk) trivial (by omega) (by omega) (Below.refl _ _) (Nat.le_refl _) ?_;intro v102 w3 ho4 hb hg_ hnew_;clear hg_ hnew_;(first | rw [← Ny101.out] at ho4 | (simp only [Int.reduceToNat] at ho4;rw [← Ny101.out] at ho4));have n0_ := qq.mk (Kd.R_lower ho4 (zw (by repeat (first | (with_reducible first | exact HB.out | apply qj | apply qz | apply qk) | exact HB.out))));have n1_ := qq.mk (zv (by repeat (first | (with_reducible first | exact HB.out | apply qj | apply qz | apply qk) | exact HB.out)) hb);clear HB;have HO103 := n0_;have HB := n1_;clear n0_ n1_;clear hb ho4;obtain ⟨Ao5,co5,eo5⟩ := Kd.R_slice HO103.out;subst eo5))
  go_loopg [0,8] k (fun kq v0 v8 w' => ∃ (x0_1 : Int) (x3_1 : List Int) (x8_1 : Int),v0 = .int .i64 x0_1 ∧ v8 = .int .i64 x8_1 ∧ qq (qvx.l0 kq x0_1 x3_1 (y101.length : Int) x8_1 = some r) ∧ qq (kq ≤ k) ∧ qq (Kd.R (Kd.int .u8) 5 w' w.heap.size (fun _ => True) (.slice Ao5 y101.length co5) x3_1) ∧ qq (Below w.heap.size w w'))
  case atStart => exact ⟨(a0),(y101),(0),(by first | rfl | (simp;done) | (simp [*];done)),(by first | rfl | (simp;done) | (simp [*];done)),H',⟨Nat.le_refl _⟩,⟨by (with_reducible repeat (first | apply Kd.jq | apply Kd.zx | apply Kd.jz));exact HO103.out⟩,⟨by repeat (first | (with_reducible first | exact HB.out | apply qj | apply qz | apply qk) | exact HB.out)⟩⟩
  case round =>
   clear H'
   try clear c1
   try clear c2
   try clear c2b0
   try clear c2b1
   try clear p2
   obtain ⟨x0_1,x3_1,x8_1,rfl,rfl,HA,HK1,HO_3,HB⟩ := hrel
   have hl3_1 := (Kd.R_reads' HO_3.out).1
   rw [hl3_1] at HO_3
   (try simp only [hl3_1])
   cases gk with
   | zero => exact absurd HA.out (by simp [qvx.l0])
   | succ k1 =>
    have H := HA.out
    clear HA
    simp only [qvx.l0] at H
    by_cases c6 : x8_1 < (y101.length : Int)
    ·rw [if_pos c6] at H
     have c6b0 : decide (x8_1 < (y101.length : Int)) = true := decide_eq_true c6
     clear c6
     by_cases c7 : 0 ≤ x8_1
     ·rw [if_pos c7] at H
      have c7b0 : decide (0 ≤ x8_1) = true := decide_eq_true c7
      clear c7
      by_cases c8 : x8_1 < (x3_1.length : Int)
      ·rw [if_pos c8] at H
       have c8b0 : decide (x8_1 < (x3_1.length : Int)) = true := decide_eq_true c8
       clear c8
       obtain ⟨y104,hy104⟩ : ∃ y_ : List Int,y_ = (x3_1.set (x8_1 : Int).toNat ((Int.tmod x0_1 256) % 256)) := ⟨_,rfl⟩
       replace H : (qvx.l0 k1 (wrap64 (Int.tdiv x0_1 256)) y104 (y101.length : Int) (wrap64 (x8_1 + 1))) = some r := by first | (rw [hy104];with_reducible exact H) | (have H2_ := (Option.bind_some _ _).symm.trans H;rw [hy104];with_reducible exact H2_) | (have H2_ := (Option.bind_some _ _).symm.trans H;with_reducible exact H2_) | with_reducible exact H | (rw [hy104];exact H) | exact H
       have Ny104 := qq.mk hy104
       clear hy104
       have H' := qq.mk H
       clear H
       have p9 : 0 ≤ (x8_1 : Int) := of_decide_eq_true (by assumption)
       have q9 : (x8_1 : Int) < ((x3_1.length : Int) : Int) := of_decide_eq_true (by assumption)
       obtain ⟨go9,co9,eo9,gb9,gl9,cl9,HG9⟩ := Kd.R_form HO_3.out (by omega)
       (first | cases eo9 | (injection eo9 with ea_ en_ ec_;(first | subst ea_ | (injection ea_ with ea_;subst ea_));subst ec_;clear en_))
       have GB9 := qq.mk gb9
       have GG9 := qq.mk HG9
       clear gb9 gl9 HG9
       obtain ⟨hx9_0,hf9_0⟩ := Kd.R_celln 0 HO_3.out (x8_1 : Int) p9 q9
       replace p9 := eq_true p9
       replace q9 := eq_true q9
       have HP10 := Kd.R_putg HO_3.out (x8_1 : Int) ((Int.tmod x0_1 256) % 256)
       go_wp2_with (first | ((with_reducible refine jw (t := 5) (p := 16) rfl ?_);refine jx (t := 5) (p := 16) (v := ?vo_w11) (w1 := (wr.setCell ⟨go9,(x8_1 : Int).toNat,none⟩ (.int .u8 ((Int.tmod x0_1 256) % 256)))) ?hg ?ho ?hn ?hr ?_;(case ho => rfl);(case hg => rfl);(case hn => rfl);(case hr => first | (go_simp;done) | (go_simp;rfl));intro w11 hw;have hg : wr.grownBy w11 (some go9) := (by rw [hw];exact HP10.2);have hp_ : Kd.R (Kd.int .u8) 5 w11 w.heap.size (fun _ => True) (.slice (some ⟨go9,0,none⟩) x3_1.length co5) y104 := (by rw [hw,Ny104.out];exact HP10.1);clear HP10;have n0_ := qq.mk (hp_);have n1_ := qq.mk ((by rw [hw];exact qx (HB.out) GB9.out : Below w.heap.size w w11));clear HO_3;clear HB;have HO_3 := n0_;have HB := n1_;clear n0_ n1_;clear hg hw hp_))
       (try simp only [← hl3_1])
       go_roundg k1
       case measure => have := HK1.out;omega
       case rel => exact ⟨(wrap64 (Int.tdiv x0_1 256)),(y104),(wrap64 (x8_1 + 1)),(by first | rfl | (simp;done) | (simp [*];done)),(by first | rfl | (simp;done) | (simp [*];done)),H',⟨by have := HK1.out;omega⟩,⟨by (try simp only [hl3_1]);(with_reducible repeat (first | apply Kd.jq | apply Kd.zx | apply Kd.jz));exact HO_3.out⟩,⟨by repeat (first | (with_reducible first | exact HB.out | apply qj | apply qz | apply qk) | exact HB.out)⟩⟩
      ·rw [if_neg c8] at H
       exact absurd H (by simp)
     ·rw [if_neg c7] at H
      exact absurd H (by simp)
    ·rw [if_neg c6] at H
     have c6b0 : decide (x8_1 < (y101.length : Int)) = false := decide_eq_false c6
     rw [hl3_1] at c6b0
     clear c6
     obtain rfl := Option.some.inj H
     go_wp2
     go_ret
     exact ⟨_,by first | rfl | (simp [*,jk,jj] <;> rfl),by (with_reducible repeat (first | apply Kd.jq | apply Kd.zx | apply Kd.jz));exact HO_3.out,by repeat (first | (with_reducible first | exact HB.out | apply qj | apply qz | apply qk) | exact HB.out)⟩
 ·rw [if_neg c2] at H
  exact absurd H (by simp)
def qwj.l0 : Nat → List Int → Int → List Int → Int → Option (List Int)
 | 0,_,_,_,_ => none
 | k + 1,x0,x1,x4,x5 => if x5 < 4 then (if 0 ≤ x5 then (if x5 < (x0.length : Int) then (if x5 < (x4.length : Int) then (if 0 ≤ (Int.tmod (wrap64 (x5 + 1)) 4) then (if (Int.tmod (wrap64 (x5 + 1)) 4) < (x0.length : Int) then (qwj.l0 k (x0.set (x5 : Int).toNat (Int.tmod (wrap64 ((wrap64 ((wrap64 ((wrap64 ((rd x0 x5) * (rd x4 x5))) + x1)) + 1)) + (rd x0 (Int.tmod (wrap64 (x5 + 1)) 4)))) 2147483579)) x1 x4 (wrap64 (x5 + 1))) else (none)) else (none)) else (none)) else (none)) else (none)) else (some x0)
def qwj.f (k : Nat) (l0 : List Int) (a1 : Int) : Option (List Int) := qwj.l0 k l0 a1 (([1103515245,69069,1664525,22695477] : List Int)) 0
theorem qwj.mono_l : ∀ k,(∀ y0 y1 y2 y3,LeO (qwj.l0 k y0 y1 y2 y3) (qwj.l0 (k + 1) y0 y1 y2 y3))
 | 0 => fun _ _ _ _ r h => by simp [qwj.l0] at h
 | k + 1 => by
  have ih0 := qwj.mono_l k
  ·intro y0 y1 y2 y3
   unfold qwj.l0
   repeat' first
   | (with_reducible exact ih0 _ _ _ _)
   | (with_reducible exact LeO.refl _)
   | (with_reducible exact LeO.none _)
   | (with_reducible refine LeO.ite ?_ ?_)
   | (with_reducible refine LeO.bind ?_ (fun _ => ?_))
   | exact ih0 _ _ _ _
   | exact LeO.none _
   | refine LeO.ite ?_ ?_
   | refine LeO.bind ?_ (fun _ => ?_)
theorem qwj.mono : ∀ a0 a1 k,LeO (qwj.f k a0 a1) (qwj.f (k + 1) a0 a1) := by
 intro a0 a1 k
 have ih0 := qwj.mono_l k
 unfold qwj.f
 repeat' first
   | (with_reducible exact ih0 _ _ _ _)
   | (with_reducible exact LeO.refl _)
   | (with_reducible exact LeO.none _)
   | (with_reducible refine LeO.ite ?_ ?_)
   | (with_reducible refine LeO.bind ?_ (fun _ => ?_))
   | exact ih0 _ _ _ _
   | exact LeO.none _
   | refine LeO.ite ?_ ?_
   | refine LeO.bind ?_ (fun _ => ?_)
def qwj.T4 : Bool × List (List Nat × List Nat) := (true,[([],[]),([],[]),([],[]),([],[]),([2,3],[2,3]),([4],[4]),([],[]),([],[]),([6,7],[6,7]),([8],[8]),([5,9],[5,9]),([],[]),([10,11],[10,11]),([12],[12]),([],[]),([],[]),([15],[15]),([16],[16]),([14,17],[14,17]),([18],[18]),([13,19],[13,19]),([20],[20]),([0,1,0,1,2,3,4,5,6,7,8,9,10,11,12,13,14,15,16,17,18,19,20,21],[0,1]),([22,21,0,1,2,3,4,5,6,7,8,9,10,11,12,13,14,15,16,17,18,19,20,21],[21,22])])
def qwj.B4 : List Nat := [0,0,0,0,12,28,0,0,192,448,1020,0,4092,8188,0,0,32768,98304,245760,507904,1048572,2097148,4194303,8388607]
theorem qwj.tab4 : rtab .any (opsOf Try.f137 4) = qwj.T4 := by kernel_rfl
theorem qwj.bits4 : waitsOk qwj.T4.2 qwj.B4 = true := by kernel_rfl
set_option maxHeartbeats 8000000 in
set_option maxRecDepth 100000 in
theorem qwj.calls (k : Nat) (P0_ : Nat → Prop) (u9000_ : Value) (l0 : List Int) (a1 : Int) (r : List Int) (w0 w : World) (hB : Below w0.heap.size w0 w) (ho0 : Kd.R (Kd.int .i64) 3 w w0.heap.size P0_ u9000_ l0) (h : qwj.f k l0 a1 = some r) :
  Calls Try.prog 137 #[u9000_,.int .i64 a1] w fun e w' => e = .returned (.tuple #[]) ∧ Kd.R (Kd.int .i64) 3 w' w0.heap.size (fun k_ => (P0_ k_ ∨ w.heap.size ≤ k_)) u9000_ r ∧ Below w0.heap.size w0 w' ∧ kz w w' (fun k_ => P0_ k_) := by
 have HO0 := qq.mk (show Kd.R (Kd.int .i64) 3 w w0.heap.size (fun k_ => (P0_ k_ ∨ w.heap.size ≤ k_)) u9000_ l0 from Kd.R_mono ho0 (fun k_ hk => (.inl hk)))
 have HK := qq.mk (kz.refl w (fun k_ => P0_ k_))
 have HW0 := qq.mk hB.size
 have HB := qq.mk hB
 clear hB
 have H : (qwj.l0 k l0 a1 (([1103515245,69069,1664525,22695477] : List Int)) 0) = some r := h
 clear h
 obtain ⟨y101,hy101⟩ : ∃ y_ : List Int,y_ = (([1103515245,69069,1664525,22695477] : List Int)) := ⟨_,rfl⟩
 replace H : (qwj.l0 k l0 a1 y101 0) = some r := by first | (rw [hy101];with_reducible exact H) | (have H2_ := (Option.bind_some _ _).symm.trans H;rw [hy101];with_reducible exact H2_) | (have H2_ := (Option.bind_some _ _).symm.trans H;with_reducible exact H2_) | with_reducible exact H | (rw [hy101];exact H) | exact H
 have Ny101 := qq.mk hy101
 clear hy101
 have H' := qq.mk H
 clear H
 go_enter Try.func137,Try.ntmps137
 go_wp2_with (first | ((with_reducible refine gate_dst (N := 6) rfl ?_);refine Kd.R_lit (Kd.int .i64) _ 3 ?hg (N := 6) ?hd (xs := ([1103515245,69069,1664525,22695477] : List Int)) (inner := [.int .i64 1103515245,.int .i64 69069,.int .i64 1664525,.int .i64 22695477]) (ok := fun _ => True) (okp := fun _ => True) ?hr ?hp (fun _ hk => hk) trivial (Below.refl _ _) (Nat.le_refl _) (by simp) ?_;(case hd => rfl);(case hg => rfl);(case hr => first | (go_simp;done) | (go_simp;rfl));(case hp => exact (Reps.one (show Kd.M (Kd.int .i64) _ _ _ 1103515245 [.int .i64 1103515245] from rfl) (Reps.one (show Kd.M (Kd.int .i64) _ _ _ 69069 [.int .i64 69069] from rfl) (Reps.one (show Kd.M (Kd.int .i64) _ _ _ 1664525 [.int .i64 1664525] from rfl) (Reps.one (show Kd.M (Kd.int .i64) _ _ _ 22695477 [.int .i64 22695477] from rfl) (Reps.none _ _))))));intro v102 w3 ho4 hb hg_ hnew_;clear hg_ hnew_;(first | rw [← Ny101.out] at ho4 | (simp only [Int.reduceToNat] at ho4;rw [← Ny101.out] at ho4));have n0_ := qq.mk (Kd.R_elder' (by (with_reducible repeat (first | apply Kd.jq | apply Kd.zx | apply Kd.jz));exact HO0.out) (Kd.R_base ho4) hb);have n1_ := qq.mk (Kd.R_lower (Kd.R_new' (Kd.R_newM (M := fun k_ => (P0_ k_ ∨ w.heap.size ≤ k_)) ho4 (by first | exact HK.out.1 | exact (show kz w _ (fun k_ => P0_ k_) from by repeat (first | (with_reducible first | exact HK.out | apply kz.alloc | apply kz.drewN | apply kz.drew) | exact HK.out)).1) (fun k_ h_ => .inr h_)) (Kd.R_lt (by (with_reducible repeat (first | apply Kd.jq | apply Kd.zx | apply Kd.jz));exact HO0.out))) (zw (by repeat (first | (with_reducible first | exact HB.out | apply qj | apply qz | apply qk) | exact HB.out))));have n2_ := qq.mk (kz.below (S := (fun k_ => P0_ k_)) (by repeat (first | (with_reducible first | exact HK.out | apply kz.alloc | apply kz.drewN | apply kz.drew) | exact HK.out)) hb);have n3_ := qq.mk (zv (by repeat (first | (with_reducible first | exact HB.out | apply qj | apply qz | apply qk) | exact HB.out)) hb);clear HO0;clear HK;clear HB;have HO0 := n0_;have HO103 := n1_;have HK := n2_;have HB := n3_;clear n0_ n1_ n2_ n3_;clear hb ho4))
 go_loopg [5] k (fun kq v5 w' => ∃ (x0_1 : List Int) (x5_1 : Int),v5 = .int .i64 x5_1 ∧ qq (qwj.l0 kq x0_1 a1 y101 x5_1 = some r) ∧ qq (kq ≤ k) ∧ qq (Kd.R (Kd.int .i64) 3 w' w0.heap.size (fun k_ => (P0_ k_ ∨ w.heap.size ≤ k_) ∧ some k_ ≠ (v102 : Value).ownBlock) u9000_ x0_1) ∧ qq (Kd.R (Kd.int .i64) 3 w' w0.heap.size (fun k_ => (P0_ k_ ∨ w.heap.size ≤ k_) ∧ some k_ ≠ (u9000_ : Value).ownBlock) v102 y101) ∧ qq (kz w w' (fun k_ => P0_ k_)) ∧ qq (Below w0.heap.size w0 w'))
 case atStart => exact ⟨(l0),(0),(by first | rfl | (simp;done) | (simp [*];done)),H',⟨Nat.le_refl _⟩,⟨by (with_reducible repeat (first | apply Kd.jq | apply Kd.zx | apply Kd.jz));exact HO0.out⟩,⟨by (with_reducible repeat (first | apply Kd.jq | apply Kd.zx | apply Kd.jz));exact Kd.R_mono HO103.out (fun _ hk => ⟨hk.1.1,hk.2⟩)⟩,⟨by repeat (first | (with_reducible first | exact HK.out | apply kz.alloc | apply kz.drewN | apply kz.drew) | exact HK.out)⟩,⟨by repeat (first | (with_reducible first | exact HB.out | apply qj | apply qz | apply qk) | exact HB.out)⟩⟩
 case round =>
  clear H'
  try clear c1
  try clear p2
  obtain ⟨x0_1,x5_1,rfl,HA,HK1,HO_0,HO_4,HK,HB⟩ := hrel
  cases gk with
  | zero => exact absurd HA.out (by simp [qwj.l0])
  | succ k1 =>
   have H := HA.out
   clear HA
   simp only [qwj.l0] at H
   by_cases c5 : x5_1 < 4
   ·rw [if_pos c5] at H
    have c5b0 : decide (x5_1 < 4) = true := decide_eq_true c5
    clear c5
    by_cases c6 : 0 ≤ x5_1
    ·rw [if_pos c6] at H
     have c6b0 : decide (0 ≤ x5_1) = true := decide_eq_true c6
     clear c6
     by_cases c7 : x5_1 < (x0_1.length : Int)
     ·rw [if_pos c7] at H
      have c7b0 : decide (x5_1 < (x0_1.length : Int)) = true := decide_eq_true c7
      clear c7
      by_cases c8 : x5_1 < (y101.length : Int)
      ·rw [if_pos c8] at H
       have c8b0 : decide (x5_1 < (y101.length : Int)) = true := decide_eq_true c8
       clear c8
       obtain ⟨ji9,hji9⟩ : ∃ j_ : Int,(Int.tmod (wrap64 (x5_1 + 1)) 4) = j_ := ⟨_,rfl⟩
       replace H : (if 0 ≤ (ji9) then (if (ji9) < (x0_1.length : Int) then (qwj.l0 k1 (x0_1.set (x5_1 : Int).toNat (Int.tmod (wrap64 ((wrap64 ((wrap64 ((wrap64 ((rd x0_1 x5_1) * (rd y101 x5_1))) + a1)) + 1)) + (rd x0_1 (ji9)))) 2147483579)) a1 y101 (wrap64 (x5_1 + 1))) else (none)) else (none)) = some r := by first | (rw [hji9] at H;exact H) | (simp only [hji9] at H ⊢;exact H)
       by_cases c10 : 0 ≤ (ji9)
       ·rw [if_pos c10] at H
        have c10b0 : decide (0 ≤ (ji9)) = true := decide_eq_true c10
        clear c10
        by_cases c11 : (ji9) < (x0_1.length : Int)
        ·rw [if_pos c11] at H
         have c11b0 : decide ((ji9) < (x0_1.length : Int)) = true := decide_eq_true c11
         clear c11
         obtain ⟨y107,hy107⟩ : ∃ y_ : List Int,y_ = (x0_1.set (x5_1 : Int).toNat (Int.tmod (wrap64 ((wrap64 ((wrap64 ((wrap64 ((rd x0_1 x5_1) * (rd y101 x5_1))) + a1)) + 1)) + (rd x0_1 (ji9)))) 2147483579)) := ⟨_,rfl⟩
         replace H : (qwj.l0 k1 y107 a1 y101 (wrap64 (x5_1 + 1))) = some r := by first | (rw [hy107];with_reducible exact H) | (have H2_ := (Option.bind_some _ _).symm.trans H;rw [hy107];with_reducible exact H2_) | (have H2_ := (Option.bind_some _ _).symm.trans H;with_reducible exact H2_) | with_reducible exact H | (rw [hy107];exact H) | exact H
         have Ny107 := qq.mk hy107
         clear hy107
         have H' := qq.mk H
         clear H
         try go_wp2
         have n0_ := qq.mk (Kd.jz HO_0.out)
         have n1_ := qq.mk (Kd.jz HO_4.out)
         have n2_ := qq.mk (kz.drew HK.out)
         have n3_ := qq.mk (qk HB.out)
         clear HO_0
         clear HO_4
         clear HK
         clear HB
         have HO_0 := n0_
         have HO_4 := n1_
         have HK := n2_
         have HB := n3_
         clear n0_ n1_ n2_ n3_
         obtain ⟨Ao14,co14,eo14⟩ := Kd.R_slice HO_0.out
         (first | subst eo14 | (injection eo14 with f1_ f2_ f3_;have f4_ := f1_.symm;have f5_ := f3_.symm;clear f1_ f2_ f3_;subst f4_;subst f5_))
         have p104 : 0 ≤ (x5_1 : Int) := of_decide_eq_true (by assumption)
         have q104 : x5_1 < (x0_1.length : Int) := of_decide_eq_true (by assumption)
         obtain ⟨ad104,e104,hx104_0⟩ := Kd.at_int (Kd.R_reads' HO_0.out).2.2 x5_1 p104 q104
         cases e104
         replace p104 := eq_true p104
         replace q104 := eq_true q104
         obtain ⟨Ao15,co15,eo15⟩ := Kd.R_slice HO_4.out
         (first | subst eo15 | (injection eo15 with f1_ f2_ f3_;have f4_ := f1_.symm;have f5_ := f3_.symm;clear f1_ f2_ f3_;subst f4_;subst f5_))
         have p105 : 0 ≤ (x5_1 : Int) := of_decide_eq_true (by assumption)
         have q105 : x5_1 < (y101.length : Int) := of_decide_eq_true (by assumption)
         obtain ⟨ad105,e105,hx105_0⟩ := Kd.at_int (Kd.R_reads' HO_4.out).2.2 x5_1 p105 q105
         cases e105
         replace p105 := eq_true p105
         replace q105 := eq_true q105
         have p106 : 0 ≤ ((ji9) : Int) := of_decide_eq_true (by assumption)
         have q106 : (ji9) < (x0_1.length : Int) := of_decide_eq_true (by assumption)
         obtain ⟨ad106,e106,hx106_0⟩ := Kd.at_int (Kd.R_reads' HO_0.out).2.2 (ji9) p106 q106
         obtain rfl : ad104 = ad106 := (by injection e106)
         replace p106 := eq_true p106
         replace q106 := eq_true q106
         have p12 : 0 ≤ (x5_1 : Int) := of_decide_eq_true (by assumption)
         have q12 : (x5_1 : Int) < ((x0_1.length : Int) : Int) := of_decide_eq_true (by assumption)
         obtain ⟨go12,co12,eo12,gb12,gl12,cl12,HG12⟩ := Kd.R_form HO_0.out (by omega)
         (first | cases eo12 | (injection eo12 with ea_ en_ ec_;(first | subst ea_ | (injection ea_ with ea_;subst ea_));subst ec_;clear en_))
         have GB12 := qq.mk gb12
         have GG12 := qq.mk HG12
         clear gb12 gl12 HG12
         have HMgo12 := qq.mk (show (P0_ go12 ∨ w.heap.size ≤ go12) from (HO_0.out.1 _ rfl).1)
         (first | simp only [add_plain] at hx104_0 | skip)
         (first | simp only [add_plain] at hx106_0 | skip)
         obtain ⟨hx12_0,hf12_0⟩ := Kd.R_celln 0 HO_0.out (x5_1 : Int) p12 q12
         replace p12 := eq_true p12
         replace q12 := eq_true q12
         have HP16 := Kd.R_putn HO_0.out (x5_1 : Int) (Int.tmod (wrap64 ((wrap64 ((wrap64 ((wrap64 ((rd x0_1 x5_1) * (rd y101 x5_1))) + a1)) + 1)) + (rd x0_1 (ji9)))) 2147483579)
         rw [← Ny107.out] at HP16
         have HQ16 := qq.mk HP16
         clear HP16
         refine start_ (n := 24) (S := fun w' => w'.cell? ⟨go12,(x5_1).toNat,none⟩ = some (.int .i64 (rd x0_1 x5_1)) ∧ w'.cell? (ad105.add (x5_1).toNat) = some (.int .i64 (rd y101 x5_1)) ∧ w'.cell? ⟨go12,((ji9)).toNat,none⟩ = some (.int .i64 (rd x0_1 (ji9)))) (ds := [23]) #[false,false,false,false,false,false,false,false,false,false,false,false,false,false,false,false,false,false,false,false,false,false,false,false] (by kernel_rfl) rfl rfl ⟨hx104_0,hx105_0,hx106_0⟩ (fun hHeld => ?_);refine with_tabW qwj.tab4 qwj.bits4 (fun HT_ HW_ => ?_)
         generalize wr.drew = w13 at HO_0 HO_4 HK HB GG12 HQ16 hf12_0 hx104_0 hx105_0 hx106_0 hx12_0 hHeld ⊢
         refine pure_ (i := 0) (N := some 11) (v := ?_) (a' := ?_) #[true,false,false,false,false,false,false,false,false,false,false,false,false,false,false,false,false,false,false,false,false,false,false,false] rfl rfl (any_of HT_.out (by kernel_rfl)) (fun _ _ _ h => h) (Or.inl ⟨by rfl,?_⟩) ?_ ?_
         rotate_left
         ·intro w'
          go_simp
          with_reducible rfl
         rotate_left
         ·simp only [Act.put,List.setIfInBounds_toArray,List.set_cons_zero,List.set_cons_succ,i64_w,i32_w]
          rfl
         refine pure_ (i := 1) (N := some 12) (v := ?_) (a' := ?_) #[true,true,false,false,false,false,false,false,false,false,false,false,false,false,false,false,false,false,false,false,false,false,false,false] rfl rfl (any_of HT_.out (by kernel_rfl)) (fun _ _ _ h => h) (Or.inl ⟨by rfl,?_⟩) ?_ ?_
         rotate_left
         ·intro w'
          go_simp
          with_reducible rfl
         rotate_left
         ·simp only [Act.put,List.setIfInBounds_toArray,List.set_cons_zero,List.set_cons_succ,i64_w,i32_w]
          rfl
         refine pure_ (i := 2) (N := some 13) (v := ?_) (a' := ?_) #[true,true,true,false,false,false,false,false,false,false,false,false,false,false,false,false,false,false,false,false,false,false,false,false] rfl rfl (any_of HT_.out (by kernel_rfl)) (fun _ _ _ h => h) (Or.inl ⟨by rfl,?_⟩) ?_ ?_
         rotate_left
         ·intro w'
          go_simp
          with_reducible rfl
         rotate_left
         ·simp only [Act.put,List.setIfInBounds_toArray,List.set_cons_zero,List.set_cons_succ,i64_w,i32_w]
          rfl
         refine pure_ (i := 3) (N := some 14) (v := ?_) (a' := ?_) #[true,true,true,true,false,false,false,false,false,false,false,false,false,false,false,false,false,false,false,false,false,false,false,false] rfl rfl (any_of HT_.out (by kernel_rfl)) (fun _ _ _ h => h) (Or.inl ⟨by rfl,?_⟩) ?_ ?_
         rotate_left
         ·intro w'
          go_simp
          with_reducible rfl
         rotate_left
         ·simp only [Act.put,List.setIfInBounds_toArray,List.set_cons_zero,List.set_cons_succ,i64_w,i32_w]
          rfl
         refine pure_ (i := 4) (N := some 15) (v := ?_) (a' := ?_) #[true,true,true,true,true,false,false,false,false,false,false,false,false,false,false,false,false,false,false,false,false,false,false,false] rfl rfl (any_of HT_.out (by kernel_rfl)) (fun _ _ _ h => h) (Or.inl ⟨by rfl,?_⟩) ?_ ?_
         rotate_left
         ·intro w'
          go_simp
          with_reducible rfl
         rotate_left
         ·simp only [Act.put,List.setIfInBounds_toArray,List.set_cons_zero,List.set_cons_succ,i64_w,i32_w]
          rfl
         refine pure_ (i := 6) (N := some 17) (v := ?_) (a' := ?_) #[true,true,true,true,true,false,true,false,false,false,false,false,false,false,false,false,false,false,false,false,false,false,false,false] rfl rfl (any_of HT_.out (by kernel_rfl)) (fun _ _ _ h => h) (Or.inl ⟨by rfl,?_⟩) ?_ ?_
         rotate_left
         ·intro w'
          go_simp
          with_reducible rfl
         rotate_left
         ·simp only [Act.put,List.setIfInBounds_toArray,List.set_cons_zero,List.set_cons_succ,i64_w,i32_w]
          rfl
         refine pure_ (i := 7) (N := some 18) (v := ?_) (a' := ?_) #[true,true,true,true,true,false,true,true,false,false,false,false,false,false,false,false,false,false,false,false,false,false,false,false] rfl rfl (any_of HT_.out (by kernel_rfl)) (fun _ _ _ h => h) (Or.inl ⟨by rfl,?_⟩) ?_ ?_
         rotate_left
         ·intro w'
          go_simp
          with_reducible rfl
         rotate_left
         ·simp only [Act.put,List.setIfInBounds_toArray,List.set_cons_zero,List.set_cons_succ,i64_w,i32_w]
          rfl
         refine pure_ (i := 8) (N := some 19) (v := ?_) (a' := ?_) #[true,true,true,true,true,false,true,true,true,false,false,false,false,false,false,false,false,false,false,false,false,false,false,false] rfl rfl (any_of HT_.out (by kernel_rfl)) (fun _ _ _ h => h) (Or.inl ⟨by rfl,?_⟩) ?_ ?_
         rotate_left
         ·intro w'
          go_simp
          with_reducible rfl
         rotate_left
         ·simp only [Act.put,List.setIfInBounds_toArray,List.set_cons_zero,List.set_cons_succ,i64_w,i32_w]
          rfl
         refine pure_ (i := 11) (N := some 22) (v := ?_) (a' := ?_) #[true,true,true,true,true,false,true,true,true,false,false,true,false,false,false,false,false,false,false,false,false,false,false,false] rfl rfl (any_of HT_.out (by kernel_rfl)) (fun _ _ _ h => h) (Or.inl ⟨by rfl,?_⟩) ?_ ?_
         rotate_left
         ·intro w'
          go_simp
          with_reducible rfl
         rotate_left
         ·simp only [Act.put,List.setIfInBounds_toArray,List.set_cons_zero,List.set_cons_succ,i64_w,i32_w]
          rfl
         refine pure_ (i := 14) (N := some 25) (v := ?_) (a' := ?_) #[true,true,true,true,true,false,true,true,true,false,false,true,false,false,true,false,false,false,false,false,false,false,false,false] rfl rfl (any_of HT_.out (by kernel_rfl)) (fun _ _ _ h => h) (Or.inl ⟨by rfl,?_⟩) ?_ ?_
         rotate_left
         ·intro w'
          go_simp
          with_reducible rfl
         rotate_left
         ·simp only [Act.put,List.setIfInBounds_toArray,List.set_cons_zero,List.set_cons_succ,i64_w,i32_w]
          rfl
         refine pure_ (i := 15) (N := some 26) (v := ?_) (a' := ?_) #[true,true,true,true,true,false,true,true,true,false,false,true,false,false,true,true,false,false,false,false,false,false,false,false] rfl rfl (any_of HT_.out (by kernel_rfl)) (fun _ _ _ h => h) (Or.inl ⟨by rfl,?_⟩) ?_ ?_
         rotate_left
         ·intro w'
          go_simp
          with_reducible rfl
         rotate_left
         ·simp only [Act.put,List.setIfInBounds_toArray,List.set_cons_zero,List.set_cons_succ,i64_w,i32_w]
          rfl
         refine pure_ (i := 16) (N := some 27) (v := ?_) (a' := ?_) #[true,true,true,true,true,false,true,true,true,false,false,true,false,false,true,true,true,false,false,false,false,false,false,false] rfl rfl (any_of HT_.out (by kernel_rfl)) (fun _ _ _ h => h) (Or.inl ⟨by rfl,?_⟩) ?_ ?_
         rotate_left
         ·intro w'
          go_simp
          with_reducible rfl
         rotate_left
         ·simp only [Act.put,List.setIfInBounds_toArray,List.set_cons_zero,List.set_cons_succ,i64_w,i32_w]
          rfl
         refine pure_ (i := 17) (N := some 28) (v := ?_) (a' := ?_) #[true,true,true,true,true,false,true,true,true,false,false,true,false,false,true,true,true,true,false,false,false,false,false,false] rfl rfl (any_of HT_.out (by kernel_rfl)) (fun _ _ _ h => h) (Or.inl ⟨by rfl,?_⟩) ?_ ?_
         rotate_left
         ·intro w'
          go_simp
          with_reducible rfl
         rotate_left
         ·simp only [Act.put,List.setIfInBounds_toArray,List.set_cons_zero,List.set_cons_succ,i64_w,i32_w]
          rfl
         refine pure_ (i := 18) (N := some 29) (v := ?_) (a' := ?_) #[true,true,true,true,true,false,true,true,true,false,false,true,false,false,true,true,true,true,true,false,false,false,false,false] rfl rfl (any_of HT_.out (by kernel_rfl)) (fun _ _ _ h => h) (Or.inl ⟨by rfl,?_⟩) ?_ ?_
         rotate_left
         ·intro w'
          go_simp
          with_reducible rfl
         rotate_left
         ·simp only [Act.put,List.setIfInBounds_toArray,List.set_cons_zero,List.set_cons_succ,i64_w,i32_w]
          rfl
         refine take_ (i := 5) (N := some 16) (v := ?_) (a' := ?_) #[true,true,true,true,true,true,true,true,true,false,false,true,false,false,true,true,true,true,true,false,false,false,false,false] rfl rfl (take_ofW HT_.out HW_.out (by kernel_rfl)) (fun _ _ _ h => h) (Or.inl ⟨by rfl,?_⟩) hHeld ?_ ?_
         rotate_left
         ·rintro w' ⟨s0,s1,s2⟩
          go_simp
          with_reducible rfl
         rotate_left
         ·simp only [Act.put,List.setIfInBounds_toArray,List.set_cons_zero,List.set_cons_succ,i64_w,i32_w]
          rfl
         refine take_ (i := 9) (N := some 20) (v := ?_) (a' := ?_) #[true,true,true,true,true,true,true,true,true,true,false,true,false,false,true,true,true,true,true,false,false,false,false,false] rfl rfl (take_ofW HT_.out HW_.out (by kernel_rfl)) (fun _ _ _ h => h) (Or.inl ⟨by rfl,?_⟩) hHeld ?_ ?_
         rotate_left
         ·rintro w' ⟨s0,s1,s2⟩
          go_simp
          with_reducible rfl
         rotate_left
         ·simp only [Act.put,List.setIfInBounds_toArray,List.set_cons_zero,List.set_cons_succ,i64_w,i32_w]
          rfl
         refine pure_ (i := 10) (N := some 21) (v := ?_) (a' := ?_) #[true,true,true,true,true,true,true,true,true,true,true,true,false,false,true,true,true,true,true,false,false,false,false,false] rfl rfl (any_of HT_.out (by kernel_rfl)) (fun _ _ _ h => h) (Or.inl ⟨by rfl,?_⟩) ?_ ?_
         rotate_left
         ·intro w'
          go_simp
          with_reducible rfl
         rotate_left
         ·simp only [Act.put,List.setIfInBounds_toArray,List.set_cons_zero,List.set_cons_succ,i64_w,i32_w]
          rfl
         refine pure_ (i := 12) (N := some 23) (v := ?_) (a' := ?_) #[true,true,true,true,true,true,true,true,true,true,true,true,true,false,true,true,true,true,true,false,false,false,false,false] rfl rfl (any_of HT_.out (by kernel_rfl)) (fun _ _ _ h => h) (Or.inl ⟨by rfl,?_⟩) ?_ ?_
         rotate_left
         ·intro w'
          go_simp
          with_reducible rfl
         rotate_left
         ·simp only [Act.put,List.setIfInBounds_toArray,List.set_cons_zero,List.set_cons_succ,i64_w,i32_w]
          rfl
         refine pure_ (i := 13) (N := some 24) (v := ?_) (a' := ?_) #[true,true,true,true,true,true,true,true,true,true,true,true,true,true,true,true,true,true,true,false,false,false,false,false] rfl rfl (any_of HT_.out (by kernel_rfl)) (fun _ _ _ h => h) (Or.inl ⟨by rfl,?_⟩) ?_ ?_
         rotate_left
         ·intro w'
          go_simp
          with_reducible rfl
         rotate_left
         ·simp only [Act.put,List.setIfInBounds_toArray,List.set_cons_zero,List.set_cons_succ,i64_w,i32_w]
          rfl
         refine take_ (i := 19) (N := some 30) (v := ?_) (a' := ?_) #[true,true,true,true,true,true,true,true,true,true,true,true,true,true,true,true,true,true,true,true,false,false,false,false] rfl rfl (take_ofW HT_.out HW_.out (by kernel_rfl)) (fun _ _ _ h => h) (Or.inl ⟨by rfl,?_⟩) hHeld ?_ ?_
         rotate_left
         ·rintro w' ⟨s0,s1,s2⟩
          go_simp
          with_reducible rfl
         rotate_left
         ·simp only [Act.put,List.setIfInBounds_toArray,List.set_cons_zero,List.set_cons_succ,i64_w,i32_w]
          rfl
         refine pure_ (i := 20) (N := some 31) (v := ?_) (a' := ?_) #[true,true,true,true,true,true,true,true,true,true,true,true,true,true,true,true,true,true,true,true,true,false,false,false] rfl rfl (any_of HT_.out (by kernel_rfl)) (fun _ _ _ h => h) (Or.inl ⟨by rfl,?_⟩) ?_ ?_
         rotate_left
         ·intro w'
          go_simp
          with_reducible rfl
         rotate_left
         ·simp only [Act.put,List.setIfInBounds_toArray,List.set_cons_zero,List.set_cons_succ,i64_w,i32_w]
          rfl
         refine pure_ (i := 21) (N := some 32) (v := ?_) (a' := ?_) #[true,true,true,true,true,true,true,true,true,true,true,true,true,true,true,true,true,true,true,true,true,true,false,false] rfl rfl (any_of HT_.out (by kernel_rfl)) (fun _ _ _ h => h) (Or.inl ⟨by rfl,?_⟩) ?_ ?_
         rotate_left
         ·intro w'
          go_simp
          with_reducible rfl
         rotate_left
         ·simp only [Act.put,List.setIfInBounds_toArray,List.set_cons_zero,List.set_cons_succ,i64_w,i32_w]
          rfl
         refine pure_ (i := 22) (N := some 33) (v := ?_) (a' := ?_) #[true,true,true,true,true,true,true,true,true,true,true,true,true,true,true,true,true,true,true,true,true,true,true,false] rfl rfl (any_of HT_.out (by kernel_rfl)) (fun _ _ _ h => h) (Or.inl ⟨by rfl,?_⟩) ?_ ?_
         rotate_left
         ·intro w'
          go_simp
          with_reducible rfl
         rotate_left
         ·simp only [Act.put,List.setIfInBounds_toArray,List.set_cons_zero,List.set_cons_succ,i64_w,i32_w]
          rfl
         refine last_ (i := 23) (N := none) #[true,true,true,true,true,true,true,true,true,true,true,true,true,true,true,true,true,true,true,true,true,true,true,true] rfl rfl (one_of HT_.out (by kernel_rfl)) (by decide) (fun K hK => ?_)
         refine skip_ (w1 := ?_) (by rfl) rfl ?_ ?_
         rotate_left
         ·go_simp
          rfl
         refine hK.out _ _ ?_
         clear hK K
         refine done_ (done_of HT_.out (by kernel_rfl)) ?_
         try go_wp2
         go_roundg k1
         case measure => have := HK1.out;omega
         case rel => exact ⟨(y107),(wrap64 (x5_1 + 1)),(by first | rfl | (simp;done) | (simp [*];done)),H',⟨by have := HK1.out;omega⟩,⟨by (with_reducible repeat (first | apply Kd.jq | apply Kd.zx | apply Kd.jz));exact HQ16.out⟩,⟨by (with_reducible repeat (first | apply Kd.jq | apply Kd.zx | apply Kd.jz));exact Kd.R_mono (Kd.R_far (p := ⟨go12,(x5_1 : Int).toNat,none⟩) (Kd.R_mono HO_4.out (fun k_ hk => (⟨hk,fun e_ => hk.2 (by rw [e_];rfl)⟩ : _ ∧ k_ ≠ go12))) (fun _ hk => hk.2) (.int .i64 (Int.tmod (wrap64 ((wrap64 ((wrap64 ((wrap64 ((rd x0_1 x5_1) * (rd y101 x5_1))) + a1)) + 1)) + (rd x0_1 (ji9)))) 2147483579))) (fun _ hk => ⟨hk.1.1,hk.1.2⟩)⟩,⟨by repeat (first | (with_reducible first | exact HK.out | apply kz.alloc | apply kz.drewN | apply kz.drew | refine kz.setCell ?_ HMgo12.out _) | exact HK.out)⟩,⟨by repeat (first | (with_reducible first | exact HB.out | apply qj | apply qz | apply qk | refine qx ?_ GB12.out) | exact HB.out)⟩⟩
        ·rw [if_neg c11] at H
         exact absurd H (by simp)
       ·rw [if_neg c10] at H
        exact absurd H (by simp)
      ·rw [if_neg c8] at H
       exact absurd H (by simp)
     ·rw [if_neg c7] at H
      exact absurd H (by simp)
    ·rw [if_neg c6] at H
     exact absurd H (by simp)
   ·rw [if_neg c5] at H
    have c5b0 : decide (x5_1 < 4) = false := decide_eq_false c5
    clear c5
    obtain rfl := Option.some.inj H
    go_wp2
    first | go_end0 | ((try simp only [Exit.inBlock,Exit.then]);refine bodyPost_ret (results_none rfl _ _ _) rfl ?_)
    exact ⟨by first | rfl | (simp [*,jk,jj] <;> rfl),by (with_reducible repeat (first | apply Kd.jq | apply Kd.zx | apply Kd.jz));exact Kd.R_mono HO_0.out (fun _ hk => hk.1),by repeat (first | (with_reducible first | exact HB.out | apply qj | apply qz | apply qk) | exact HB.out),by repeat (first | (with_reducible first | exact HK.out | apply kz.alloc | apply kz.drewN | apply kz.drew) | exact HK.out)⟩
mutual
def qwq.l0 : Nat → List Int → List Int → List Int → Int → Int → Option (List Int)
 | 0,_,_,_,_,_ => none
 | k + 1,x0,x3,x13,x14,x15 => if x15 < x14 then (if 0 ≤ x15 then (if x15 < (x13.length : Int) then ((qwj.f k x3 (wrap64 (rd x13 x15))).bind fun t105 => (qwq.l0 k x0 t105 x13 x14 (wrap64 (x15 + 1)))) else (none)) else (none)) else ((qvx.f k (x0.length : Int)).bind fun t106 => (qwq.l1 k x3 t106 (t106.length : Int) 0))
def qwq.l1 : Nat → List Int → List Int → Int → Int → Option (List Int)
 | 0,_,_,_,_ => none
 | k + 1,x3,x26,x27,x28 => if x28 < x27 then (if 0 ≤ x28 then (if x28 < (x26.length : Int) then ((qwj.f k x3 (wrap64 (rd x26 x28))).bind fun t110 => (qwq.l1 k t110 x26 x27 (wrap64 (x28 + 1)))) else (none)) else (none)) else (qwq.l2 k x3 0)
def qwq.l2 : Nat → List Int → Int → Option (List Int)
 | 0,_,_ => none
 | k + 1,x3,x8 => if x8 < 8 then ((qwj.f k x3 0).bind fun t111 => (qwq.l2 k t111 (wrap64 (x8 + 1)))) else (qwq.l3 k ([] : List Int) x3 (x3.length : Int) 0)
def qwq.l3 : Nat → List Int → List Int → Int → Int → Option (List Int)
 | 0,_,_,_,_ => none
 | k + 1,x9,x43,x44,x45 => if x45 < x44 then (if 0 ≤ x45 then (if x45 < (x43.length : Int) then ((qvx.f k (rd x43 x45)).bind fun t113 => (if x9.length + t113.length < 140737488355328 then (qwq.l3 k (x9 ++ t113) x43 x44 (wrap64 (x45 + 1))) else (none))) else (none)) else (none)) else (some x9)
end
def qwq.f (k : Nat) (l0 : List Int) : Option (List Int) := qwq.l0 k l0 (([11,22,33,44] : List Int)) l0 (l0.length : Int) 0
theorem qwq.mono_l : ∀ k,(∀ y0 y1 y2 y3 y4,LeO (qwq.l0 k y0 y1 y2 y3 y4) (qwq.l0 (k + 1) y0 y1 y2 y3 y4)) ∧ (∀ y0 y1 y2 y3,LeO (qwq.l1 k y0 y1 y2 y3) (qwq.l1 (k + 1) y0 y1 y2 y3)) ∧ (∀ y0 y1,LeO (qwq.l2 k y0 y1) (qwq.l2 (k + 1) y0 y1)) ∧ (∀ y0 y1 y2 y3,LeO (qwq.l3 k y0 y1 y2 y3) (qwq.l3 (k + 1) y0 y1 y2 y3))
 | 0 => ⟨fun _ _ _ _ _ r h => by simp [qwq.l0] at h,fun _ _ _ _ r h => by simp [qwq.l1] at h,fun _ _ r h => by simp [qwq.l2] at h,fun _ _ _ _ r h => by simp [qwq.l3] at h⟩
 | k + 1 => by
  obtain ⟨ih0,ih1,ih2,ih3⟩ := qwq.mono_l k
  refine ⟨?_,?_,?_,?_⟩
  ·intro y0 y1 y2 y3 y4
   unfold qwq.l0
   repeat' first
   | (with_reducible exact ih0 _ _ _ _ _)
   | (with_reducible exact ih1 _ _ _ _)
   | (with_reducible exact ih2 _ _)
   | (with_reducible exact ih3 _ _ _ _)
   | (with_reducible exact qvx.mono _ _)
   | (with_reducible exact qwj.mono _ _ _)
   | (with_reducible exact LeO.refl _)
   | (with_reducible exact LeO.none _)
   | (with_reducible refine LeO.ite ?_ ?_)
   | (with_reducible refine LeO.bind ?_ (fun _ => ?_))
   | exact ih0 _ _ _ _ _
   | exact ih1 _ _ _ _
   | exact ih2 _ _
   | exact ih3 _ _ _ _
   | exact qvx.mono _ _
   | exact qwj.mono _ _ _
   | exact LeO.none _
   | refine LeO.ite ?_ ?_
   | refine LeO.bind ?_ (fun _ => ?_)
  ·intro y0 y1 y2 y3
   unfold qwq.l1
   repeat' first
   | (with_reducible exact ih0 _ _ _ _ _)
   | (with_reducible exact ih1 _ _ _ _)
   | (with_reducible exact ih2 _ _)
   | (with_reducible exact ih3 _ _ _ _)
   | (with_reducible exact qvx.mono _ _)
   | (with_reducible exact qwj.mono _ _ _)
   | (with_reducible exact LeO.refl _)
   | (with_reducible exact LeO.none _)
   | (with_reducible refine LeO.ite ?_ ?_)
   | (with_reducible refine LeO.bind ?_ (fun _ => ?_))
   | exact ih0 _ _ _ _ _
   | exact ih1 _ _ _ _
   | exact ih2 _ _
   | exact ih3 _ _ _ _
   | exact qvx.mono _ _
   | exact qwj.mono _ _ _
   | exact LeO.none _
   | refine LeO.ite ?_ ?_
   | refine LeO.bind ?_ (fun _ => ?_)
  ·intro y0 y1
   unfold qwq.l2
   repeat' first
   | (with_reducible exact ih0 _ _ _ _ _)
   | (with_reducible exact ih1 _ _ _ _)
   | (with_reducible exact ih2 _ _)
   | (with_reducible exact ih3 _ _ _ _)
   | (with_reducible exact qvx.mono _ _)
   | (with_reducible exact qwj.mono _ _ _)
   | (with_reducible exact LeO.refl _)
   | (with_reducible exact LeO.none _)
   | (with_reducible refine LeO.ite ?_ ?_)
   | (with_reducible refine LeO.bind ?_ (fun _ => ?_))
   | exact ih0 _ _ _ _ _
   | exact ih1 _ _ _ _
   | exact ih2 _ _
   | exact ih3 _ _ _ _
   | exact qvx.mono _ _
   | exact qwj.mono _ _ _
   | exact LeO.none _
   | refine LeO.ite ?_ ?_
   | refine LeO.bind ?_ (fun _ => ?_)
  ·intro y0 y1 y2 y3
   unfold qwq.l3
   repeat' first
   | (with_reducible exact ih0 _ _ _ _ _)
   | (with_reducible exact ih1 _ _ _ _)
   | (with_reducible exact ih2 _ _)
   | (with_reducible exact ih3 _ _ _ _)
   | (with_reducible exact qvx.mono _ _)
   | (with_reducible exact qwj.mono _ _ _)
   | (with_reducible exact LeO.refl _)
   | (with_reducible exact LeO.none _)
   | (with_reducible refine LeO.ite ?_ ?_)
   | (with_reducible refine LeO.bind ?_ (fun _ => ?_))
   | exact ih0 _ _ _ _ _
   | exact ih1 _ _ _ _
   | exact ih2 _ _
   | exact ih3 _ _ _ _
   | exact qvx.mono _ _
   | exact qwj.mono _ _ _
   | exact LeO.none _
   | refine LeO.ite ?_ ?_
   | refine LeO.bind ?_ (fun _ => ?_)
theorem qwq.mono : ∀ a0 k,LeO (qwq.f k a0) (qwq.f (k + 1) a0) := by
 intro a0 k
 obtain ⟨ih0,ih1,ih2,ih3⟩ := qwq.mono_l k
 unfold qwq.f
 repeat' first
   | (with_reducible exact ih0 _ _ _ _ _)
   | (with_reducible exact ih1 _ _ _ _)
   | (with_reducible exact ih2 _ _)
   | (with_reducible exact ih3 _ _ _ _)
   | (with_reducible exact qvx.mono _ _)
   | (with_reducible exact qwj.mono _ _ _)
   | (with_reducible exact LeO.refl _)
   | (with_reducible exact LeO.none _)
   | (with_reducible refine LeO.ite ?_ ?_)
   | (with_reducible refine LeO.bind ?_ (fun _ => ?_))
   | exact ih0 _ _ _ _ _
   | exact ih1 _ _ _ _
   | exact ih2 _ _
   | exact ih3 _ _ _ _
   | exact qvx.mono _ _
   | exact qwj.mono _ _ _
   | exact LeO.none _
   | refine LeO.ite ?_ ?_
   | refine LeO.bind ?_ (fun _ => ?_)
set_option maxHeartbeats 8000000 in
set_option maxRecDepth 100000 in
theorem qwq.calls (k : Nat) (A0 : Option Addr) (c0 : Nat) (l0 : List Int) (r : List Int) (w : World) (hr0 : Kd.C (Kd.int .u8) w A0 l0.length l0) (hc0 : l0.length ≤ c0) (h : qwq.f k l0 = some r) :
  Calls Try.prog 116 #[.slice A0 l0.length c0] w fun e w' => ∃ v0_ : Value,e = .returned (v0_) ∧ Kd.R (Kd.int .u8) 5 w' w.heap.size (fun _ => True) v0_ r ∧ Below w.heap.size w w' := by
 have HR0 := qq.mk hr0
 have HC0 := qq.mk hc0
 clear hr0 hc0
 have HB := qq.mk (Below.refl w.heap.size w)
 have H : (qwq.l0 k l0 (([11,22,33,44] : List Int)) l0 (l0.length : Int) 0) = some r := h
 clear h
 obtain ⟨y101,hy101⟩ : ∃ y_ : List Int,y_ = (([11,22,33,44] : List Int)) := ⟨_,rfl⟩
 replace H : (qwq.l0 k l0 y101 l0 (l0.length : Int) 0) = some r := by first | (rw [hy101];with_reducible exact H) | (have H2_ := (Option.bind_some _ _).symm.trans H;rw [hy101];with_reducible exact H2_) | (have H2_ := (Option.bind_some _ _).symm.trans H;with_reducible exact H2_) | with_reducible exact H | (rw [hy101];exact H) | exact H
 have Ny101 := qq.mk hy101
 clear hy101
 have H' := qq.mk H
 clear H
 go_enter Try.func116,Try.ntmps116
 go_wp2_with (first | ((with_reducible refine gate_dst (N := 12) rfl ?_);refine Kd.R_lit (Kd.int .i64) _ 3 ?hg (N := 12) ?hd (xs := ([11,22,33,44] : List Int)) (inner := [.int .i64 11,.int .i64 22,.int .i64 33,.int .i64 44]) (ok := fun _ => True) (okp := fun _ => True) ?hr ?hp (fun _ hk => hk) trivial (Below.refl _ _) (Nat.le_refl _) (by simp) ?_;(case hd => rfl);(case hg => rfl);(case hr => first | (go_simp;done) | (go_simp;rfl));(case hp => exact (Reps.one (show Kd.M (Kd.int .i64) _ _ _ 11 [.int .i64 11] from rfl) (Reps.one (show Kd.M (Kd.int .i64) _ _ _ 22 [.int .i64 22] from rfl) (Reps.one (show Kd.M (Kd.int .i64) _ _ _ 33 [.int .i64 33] from rfl) (Reps.one (show Kd.M (Kd.int .i64) _ _ _ 44 [.int .i64 44] from rfl) (Reps.none _ _))))));intro v102 w2 ho3 hb hg_ hnew_;clear hg_ hnew_;(first | rw [← Ny101.out] at ho3 | (simp only [Int.reduceToNat] at ho3;rw [← Ny101.out] at ho3));have n0_ := qq.mk (Kd.R_lower ho3 (zw (by repeat (first | (with_reducible first | exact HB.out | apply qj | apply qz | apply qk) | exact HB.out))));have n1_ := qq.mk (zv (by repeat (first | (with_reducible first | exact HB.out | apply qj | apply qz | apply qk) | exact HB.out)) hb);clear HB;have HO103 := n0_;have HB := n1_;clear n0_ n1_;clear hb ho3))
 go_loopg [15] k (fun kq v15 w' => ∃ (x3_1 : List Int) (x15_1 : Int),v15 = .int .i64 x15_1 ∧ qq (qwq.l0 kq l0 x3_1 l0 (l0.length : Int) x15_1 = some r) ∧ qq (kq ≤ k) ∧ qq (Kd.R (Kd.int .i64) 3 w' w.heap.size (fun _ => True) v102 x3_1) ∧ qq (Below w.heap.size w w'))
 case atStart => exact ⟨(y101),(0),(by first | rfl | (simp;done) | (simp [*];done)),H',⟨Nat.le_refl _⟩,⟨by (with_reducible repeat (first | apply Kd.jq | apply Kd.zx | apply Kd.jz));exact HO103.out⟩,⟨by repeat (first | (with_reducible first | exact HB.out | apply qj | apply qz | apply qk) | exact HB.out)⟩⟩
 case round =>
  clear H'
  try clear c1
  try clear p2
  obtain ⟨x3_1,x15_1,rfl,HA,HK1,HO_3,HB⟩ := hrel
  cases gk with
  | zero => exact absurd HA.out (by simp [qwq.l0])
  | succ k1 =>
   have H := HA.out
   clear HA
   simp only [qwq.l0] at H
   by_cases c4 : x15_1 < (l0.length : Int)
   ·rw [if_pos c4] at H
    have c4b0 : decide (x15_1 < (l0.length : Int)) = true := decide_eq_true c4
    clear c4
    by_cases c5 : 0 ≤ x15_1
    ·rw [if_pos c5] at H
     have c5b0 : decide (0 ≤ x15_1) = true := decide_eq_true c5
     clear c5
     by_cases c6 : x15_1 < (l0.length : Int)
     ·rw [if_pos c6] at H
      have c6b0 : decide (x15_1 < (l0.length : Int)) = true := decide_eq_true c6
      clear c6
      replace H := Option.bind_eq_some_iff.mp H
      obtain ⟨t105,A70,H⟩ := H
      replace H : (qwq.l0 k1 l0 t105 l0 (l0.length : Int) (wrap64 (x15_1 + 1))) = some r := H
      have A7 := qq.mk A70
      clear A70
      have H' := qq.mk H
      clear H
      have p104 : 0 ≤ (x15_1 : Int) := of_decide_eq_true (by assumption)
      have q104 : x15_1 < (l0.length : Int) := of_decide_eq_true (by assumption)
      obtain ⟨ad104,e104,hx104_0⟩ := Kd.at_int HR0.out x15_1 p104 q104
      cases e104
      replace hx104_0 := (HB.out.cell (World.block_lt_of_cell? w _ hx104_0)).trans hx104_0
      replace p104 := eq_true p104
      replace q104 := eq_true q104
      obtain ⟨Ao8,co8,eo8⟩ := Kd.R_slice HO_3.out
      subst eo8
      go_wp2_with (first | ((with_reducible refine jv (f := 137) rfl ?_);refine goesL_ (some 22) rfl rfl Try.func137 (by kernel_rfl) rfl #[.slice Ao8 x3_1.length co8,.int .i64 (wrap64 (rd l0 x15_1))] rfl (by (try simp only [List.map_toArray,List.map_cons,List.map_nil]);first | done | rfl | (simp only [List.length_drop,List.length_take];rfl)) ?_;(with_reducible refine (qwj.calls k1 (fun k_ => some k_ = (.slice Ao8 x3_1.length co8 : Value).ownBlock) (.slice Ao8 x3_1.length co8) x3_1 (wrap64 (rd l0 x15_1)) t105 w _ ?side1 ?side2 A7.out).mono ?_);(case side1 => repeat (first | (with_reducible first | exact HB.out | apply qj | apply qz | apply qk) | exact HB.out));(case side2 => exact Kd.R_tight rfl HO_3.out);rintro e w9 ⟨rfl,hy0,hb,hkp⟩;refine ⟨_,rfl,?_⟩;have n0_ := qq.mk (Kd.R_reok rfl hy0 (fun k_ e_ => HO_3.out.1 k_ e_));have n1_ := qq.mk (hb);clear HO_3;clear HB;have HO_3 := n0_;have HB := n1_;clear n0_ n1_;(try clear hb);(try clear hkp);(try clear hy0)))
      go_roundg k1
      case measure => have := HK1.out;omega
      case rel => exact ⟨(t105),(wrap64 (x15_1 + 1)),(by first | rfl | (simp;done) | (simp [*];done)),H',⟨by have := HK1.out;omega⟩,⟨by (with_reducible repeat (first | apply Kd.jq | apply Kd.zx | apply Kd.jz));exact HO_3.out⟩,⟨by repeat (first | (with_reducible first | exact HB.out | apply qj | apply qz | apply qk) | exact HB.out)⟩⟩
     ·rw [if_neg c6] at H
      exact absurd H (by simp)
    ·rw [if_neg c5] at H
     exact absurd H (by simp)
   ·rw [if_neg c4] at H
    have c4b0 : decide (x15_1 < (l0.length : Int)) = false := decide_eq_false c4
    clear c4
    replace H := Option.bind_eq_some_iff.mp H
    obtain ⟨t106,A100,H⟩ := H
    replace H : (qwq.l1 k1 x3_1 t106 (t106.length : Int) 0) = some r := H
    have A10 := qq.mk A100
    clear A100
    have H' := qq.mk H
    clear H
    go_wp2_with (first | ((with_reducible refine jv (f := 115) rfl ?_);refine goesL_ (some 26) rfl rfl Try.func115 (by kernel_rfl) rfl #[.int .i64 (l0.length : Int)] rfl (by (try simp only [List.map_toArray,List.map_cons,List.map_nil]);first | done | rfl | (simp only [List.length_drop,List.length_take];rfl)) ?_;(with_reducible refine (qvx.calls k1 (l0.length : Int) t106 _ A10.out).mono ?_);rintro e w11 ⟨v107,rfl,ho0,hb⟩;refine ⟨_,rfl,?_⟩;have n0_ := qq.mk (Kd.R_below (by (with_reducible repeat (first | apply Kd.jq | apply Kd.zx | apply Kd.jz));exact HO_3.out) hb);have n1_ := qq.mk (Kd.R_lower ho0 (zw (by repeat (first | (with_reducible first | exact HB.out | apply qj | apply qz | apply qk) | exact HB.out))));have n2_ := qq.mk (zv (by repeat (first | (with_reducible first | exact HB.out | apply qj | apply qz | apply qk) | exact HB.out)) hb);clear HO_3;clear HB;have HO_3 := n0_;have HO108 := n1_;have HB := n2_;clear n0_ n1_ n2_;(try clear hb);(try clear hb2);(try clear hk);(try clear hi);(try clear ho0);obtain ⟨Ao12,co12,eo12⟩ := Kd.R_slice HO108.out;subst eo12))
    go_loopg [28] k1 (fun kq v28 w' => ∃ (x3_2 : List Int) (x28_2 : Int),v28 = .int .i64 x28_2 ∧ qq (qwq.l1 kq x3_2 t106 (t106.length : Int) x28_2 = some r) ∧ qq (kq ≤ k1) ∧ qq (Kd.R (Kd.int .i64) 3 w' w.heap.size (fun _ => True) v102 x3_2) ∧ qq (Kd.R (Kd.int .u8) 5 w' w.heap.size (fun _ => True) (.slice Ao12 t106.length co12) t106) ∧ qq (Below w.heap.size w w'))
    case atStart => exact ⟨(x3_1),(0),(by first | rfl | (simp;done) | (simp [*];done)),H',⟨Nat.le_refl _⟩,⟨by (with_reducible repeat (first | apply Kd.jq | apply Kd.zx | apply Kd.jz));exact HO_3.out⟩,⟨by (with_reducible repeat (first | apply Kd.jq | apply Kd.zx | apply Kd.jz));exact HO108.out⟩,⟨by repeat (first | (with_reducible first | exact HB.out | apply qj | apply qz | apply qk) | exact HB.out)⟩⟩
    case round =>
     clear H'
     try clear c1
     try clear p1
     try clear q1
     try clear hx1
     try clear p2
     try clear c4
     try clear c4b0
     try clear c5
     try clear c5b0
     try clear c6
     try clear c6b0
     try clear p6
     try clear p10
     try clear q10
     try clear hx10
     try clear c11
     try clear hx104_0
     try clear p104
     try clear p2
     try clear q104
     obtain ⟨x3_2,x28_2,rfl,HA,HK2,HO_3,HO_26,HB⟩ := hrel
     cases gk with
     | zero => exact absurd HA.out (by simp [qwq.l1])
     | succ k2 =>
      have H := HA.out
      clear HA
      simp only [qwq.l1] at H
      by_cases c13 : x28_2 < (t106.length : Int)
      ·rw [if_pos c13] at H
       have c13b0 : decide (x28_2 < (t106.length : Int)) = true := decide_eq_true c13
       clear c13
       by_cases c14 : 0 ≤ x28_2
       ·rw [if_pos c14] at H
        have c14b0 : decide (0 ≤ x28_2) = true := decide_eq_true c14
        clear c14
        by_cases c15 : x28_2 < (t106.length : Int)
        ·rw [if_pos c15] at H
         have c15b0 : decide (x28_2 < (t106.length : Int)) = true := decide_eq_true c15
         clear c15
         replace H := Option.bind_eq_some_iff.mp H
         obtain ⟨t110,A160,H⟩ := H
         replace H : (qwq.l1 k2 t110 t106 (t106.length : Int) (wrap64 (x28_2 + 1))) = some r := H
         have A16 := qq.mk A160
         clear A160
         have H' := qq.mk H
         clear H
         have p109 : 0 ≤ (x28_2 : Int) := of_decide_eq_true (by assumption)
         have q109 : x28_2 < (t106.length : Int) := of_decide_eq_true (by assumption)
         obtain ⟨ad109,e109,hx109_0⟩ := Kd.at_int (Kd.R_reads' HO_26.out).2.2 x28_2 p109 q109
         cases e109
         replace p109 := eq_true p109
         replace q109 := eq_true q109
         obtain ⟨Ao17,co17,eo17⟩ := Kd.R_slice HO_3.out
         subst eo17
         go_wp2_with (first | ((with_reducible refine jv (f := 137) rfl ?_);refine goesL_ (some 35) rfl rfl Try.func137 (by kernel_rfl) rfl #[.slice Ao17 x3_2.length co17,.int .i64 (wrap64 (rd t106 x28_2))] rfl (by (try simp only [List.map_toArray,List.map_cons,List.map_nil]);first | done | rfl | (simp only [List.length_drop,List.length_take];rfl)) ?_;(with_reducible refine (qwj.calls k2 (fun k_ => some k_ = (.slice Ao17 x3_2.length co17 : Value).ownBlock) (.slice Ao17 x3_2.length co17) x3_2 (wrap64 (rd t106 x28_2)) t110 w _ ?side1 ?side2 A16.out).mono ?_);(case side1 => repeat (first | (with_reducible first | exact HB.out | apply qj | apply qz | apply qk) | exact HB.out));(case side2 => exact Kd.R_tight rfl HO_3.out);rintro e w18 ⟨rfl,hy0,hb,hkp⟩;refine ⟨_,rfl,?_⟩;have n0_ := qq.mk (Kd.R_reok rfl hy0 (fun k_ e_ => HO_3.out.1 k_ e_));have n1_ := qq.mk (Kd.R_mono (ok' := fun k_ => True) (Kd.R_keptB ((Kd.R_apart' HO_26.out (Kd.R_typed HO_3.out) (by decide))) hkp (fun k_ hk_ hs_ => absurd hs_ (by first | exact hk_.2 | ((try simp only [and_assoc] at hk_);first | exact hk_.1 | exact hk_.2.1 | exact hk_.2.2.1 | exact hk_.2.2.2.1 | exact hk_.2.2.2.2.1 | exact hk_.2.2.2.2.2.1 | exact hk_.2.2.2.2.2.2.1 | exact hk_.2.2.2.2.2.2.2.1 | exact hk_.2.2.2.2.2.2.2.2.1 | exact hk_.2.2.2.2.2.2.2.2.2.1 | exact hk_.2.2.2.2.2.2.2.2.2.2.1 | exact hk_.2.2.2.2.2.2.2.2.2.2.2.1 | exact hk_.2.2.2.2.2.2.2.2.2.2.2.2.1 | exact hk_.2.2.2.2.2.2.2.2.2.2.2.2.2.1 | exact hk_.2.2.2.2.2.2.2.2.2.2.2.2.2.2.1 | exact hk_.2.2.2.2.2.2.2.2.2.2.2.2.2.2.2.1 | exact hk_.2 | exact hk_.2.2 | exact hk_.2.2.2 | exact hk_.2.2.2.2 | exact hk_.2.2.2.2.2 | exact hk_.2.2.2.2.2.2 | exact hk_.2.2.2.2.2.2.2 | exact hk_.2.2.2.2.2.2.2.2 | exact hk_.2.2.2.2.2.2.2.2.2 | exact hk_.2.2.2.2.2.2.2.2.2.2 | exact hk_.2.2.2.2.2.2.2.2.2.2.2 | exact hk_.2.2.2.2.2.2.2.2.2.2.2.2 | exact hk_.2.2.2.2.2.2.2.2.2.2.2.2.2 | exact hk_.2.2.2.2.2.2.2.2.2.2.2.2.2.2 | exact hk_.2.2.2.2.2.2.2.2.2.2.2.2.2.2.2)))) (fun k_ hk_ => trivial));have n2_ := qq.mk (hb);clear HO_3;clear HO_26;clear HB;have HO_3 := n0_;have HO_26 := n1_;have HB := n2_;clear n0_ n1_ n2_;(try clear hb);(try clear hkp);(try clear hy0)))
         go_roundg k2
         case measure => have := HK1.out;have := HK2.out;omega
         case rel => exact ⟨(t110),(wrap64 (x28_2 + 1)),(by first | rfl | (simp;done) | (simp [*];done)),H',⟨by have := HK1.out;have := HK2.out;omega⟩,⟨by (with_reducible repeat (first | apply Kd.jq | apply Kd.zx | apply Kd.jz));exact HO_3.out⟩,⟨by (with_reducible repeat (first | apply Kd.jq | apply Kd.zx | apply Kd.jz));exact HO_26.out⟩,⟨by repeat (first | (with_reducible first | exact HB.out | apply qj | apply qz | apply qk) | exact HB.out)⟩⟩
        ·rw [if_neg c15] at H
         exact absurd H (by simp)
       ·rw [if_neg c14] at H
        exact absurd H (by simp)
      ·rw [if_neg c13] at H
       have c13b0 : decide (x28_2 < (t106.length : Int)) = false := decide_eq_false c13
       clear c13
       have H' := qq.mk H
       clear H
       go_wp2
       go_loopg [8] k2 (fun kq v8 w' => ∃ (x3_3 : List Int) (x8_3 : Int),v8 = .int .i64 x8_3 ∧ qq (qwq.l2 kq x3_3 x8_3 = some r) ∧ qq (kq ≤ k2) ∧ qq (Kd.R (Kd.int .i64) 3 w' w.heap.size (fun _ => True) v102 x3_3) ∧ qq (Below w.heap.size w w'))
       case atStart => exact ⟨(x3_2),(0),(by first | rfl | (simp;done) | (simp [*];done)),H',⟨Nat.le_refl _⟩,⟨by (with_reducible repeat (first | apply Kd.jq | apply Kd.zx | apply Kd.jz));exact HO_3.out⟩,⟨by repeat (first | (with_reducible first | exact HB.out | apply qj | apply qz | apply qk) | exact HB.out)⟩⟩
       case round =>
        clear H'
        try clear c1
        try clear p1
        try clear q1
        try clear hx1
        try clear p2
        try clear c4
        try clear c4b0
        try clear c5
        try clear c5b0
        try clear c6
        try clear c6b0
        try clear p6
        try clear p10
        try clear q10
        try clear hx10
        try clear c11
        try clear c13
        try clear c13b0
        try clear c14
        try clear c14b0
        try clear c15
        try clear c15b0
        try clear hx104_0
        try clear hx109_0
        try clear p1
        try clear p10
        try clear p104
        try clear p109
        try clear p2
        try clear p6
        try clear q1
        try clear q10
        try clear q104
        try clear q109
        obtain ⟨x3_3,x8_3,rfl,HA,HK3,HO_3,HB⟩ := hrel
        cases gk with
        | zero => exact absurd HA.out (by simp [qwq.l2])
        | succ k3 =>
         have H := HA.out
         clear HA
         simp only [qwq.l2] at H
         by_cases c19 : x8_3 < 8
         ·rw [if_pos c19] at H
          have c19b0 : decide (x8_3 < 8) = true := decide_eq_true c19
          clear c19
          replace H := Option.bind_eq_some_iff.mp H
          obtain ⟨t111,A200,H⟩ := H
          replace H : (qwq.l2 k3 t111 (wrap64 (x8_3 + 1))) = some r := H
          have A20 := qq.mk A200
          clear A200
          have H' := qq.mk H
          clear H
          obtain ⟨Ao21,co21,eo21⟩ := Kd.R_slice HO_3.out
          subst eo21
          go_wp2_with (first | ((with_reducible refine jv (f := 137) rfl ?_);refine goesL_ (some 42) rfl rfl Try.func137 (by kernel_rfl) rfl #[.slice Ao21 x3_3.length co21,.int .i64 0] rfl (by (try simp only [List.map_toArray,List.map_cons,List.map_nil]);first | done | rfl | (simp only [List.length_drop,List.length_take];rfl)) ?_;(with_reducible refine (qwj.calls k3 (fun k_ => some k_ = (.slice Ao21 x3_3.length co21 : Value).ownBlock) (.slice Ao21 x3_3.length co21) x3_3 0 t111 w _ ?side1 ?side2 A20.out).mono ?_);(case side1 => repeat (first | (with_reducible first | exact HB.out | apply qj | apply qz | apply qk) | exact HB.out));(case side2 => exact Kd.R_tight rfl HO_3.out);rintro e w22 ⟨rfl,hy0,hb,hkp⟩;refine ⟨_,rfl,?_⟩;have n0_ := qq.mk (Kd.R_reok rfl hy0 (fun k_ e_ => HO_3.out.1 k_ e_));have n1_ := qq.mk (hb);clear HO_3;clear HB;have HO_3 := n0_;have HB := n1_;clear n0_ n1_;(try clear hb);(try clear hkp);(try clear hy0)))
          go_roundg k3
          case measure => have := HK1.out;have := HK2.out;have := HK3.out;omega
          case rel => exact ⟨(t111),(wrap64 (x8_3 + 1)),(by first | rfl | (simp;done) | (simp [*];done)),H',⟨by have := HK1.out;have := HK2.out;have := HK3.out;omega⟩,⟨by (with_reducible repeat (first | apply Kd.jq | apply Kd.zx | apply Kd.jz));exact HO_3.out⟩,⟨by repeat (first | (with_reducible first | exact HB.out | apply qj | apply qz | apply qk) | exact HB.out)⟩⟩
         ·rw [if_neg c19] at H
          have c19b0 : decide (x8_3 < 8) = false := decide_eq_false c19
          clear c19
          have H' := qq.mk H
          clear H
          obtain ⟨Ao23,co23,eo23⟩ := Kd.R_slice HO_3.out
          subst eo23
          go_wp2
          go_loopg [9,45] k3 (fun kq v9 v45 w' => ∃ (x9_4 : List Int) (x45_4 : Int),v45 = .int .i64 x45_4 ∧ qq (qwq.l3 kq x9_4 x3_3 (x3_3.length : Int) x45_4 = some r) ∧ qq (kq ≤ k3) ∧ qq (Kd.R (Kd.int .u8) 5 w' w.heap.size (fun _ => True) v9 x9_4) ∧ qq (Kd.R (Kd.int .i64) 3 w' w.heap.size (fun _ => True) (.slice Ao23 x3_3.length co23) x3_3) ∧ qq (Below w.heap.size w w'))
          case atStart => exact ⟨(([] : List Int)),(0),(by first | rfl | (simp;done) | (simp [*];done)),H',⟨Nat.le_refl _⟩,⟨by first | exact Kd.R_nil _ _ _ _ _ | exact Kd.N_nil _ _ _ _ _ | exact Kd.V_nil _ _ _ _ _ | exact Kd.Q_nil _ _ _ _ _ | exact Kd.S_nil _ _ _ _ _⟩,⟨by (with_reducible repeat (first | apply Kd.jq | apply Kd.zx | apply Kd.jz));exact HO_3.out⟩,⟨by repeat (first | (with_reducible first | exact HB.out | apply qj | apply qz | apply qk) | exact HB.out)⟩⟩
          case round =>
           clear H'
           try clear c1
           try clear p1
           try clear q1
           try clear hx1
           try clear p2
           try clear c4
           try clear c4b0
           try clear c5
           try clear c5b0
           try clear c6
           try clear c6b0
           try clear p6
           try clear p10
           try clear q10
           try clear hx10
           try clear c11
           try clear c13
           try clear c13b0
           try clear c14
           try clear c14b0
           try clear c15
           try clear c15b0
           try clear c19
           try clear c19b0
           try clear hx104_0
           try clear hx109_0
           try clear p1
           try clear p10
           try clear p104
           try clear p109
           try clear p2
           try clear p6
           try clear q1
           try clear q10
           try clear q104
           try clear q109
           obtain ⟨x9_4,x45_4,rfl,HA,HK4,HO_9,HO_43,HB⟩ := hrel
           cases gk with
           | zero => exact absurd HA.out (by simp [qwq.l3])
           | succ k4 =>
            have H := HA.out
            clear HA
            simp only [qwq.l3] at H
            by_cases c24 : x45_4 < (x3_3.length : Int)
            ·rw [if_pos c24] at H
             have c24b0 : decide (x45_4 < (x3_3.length : Int)) = true := decide_eq_true c24
             clear c24
             by_cases c25 : 0 ≤ x45_4
             ·rw [if_pos c25] at H
              have c25b0 : decide (0 ≤ x45_4) = true := decide_eq_true c25
              clear c25
              by_cases c26 : x45_4 < (x3_3.length : Int)
              ·rw [if_pos c26] at H
               have c26b0 : decide (x45_4 < (x3_3.length : Int)) = true := decide_eq_true c26
               clear c26
               replace H := Option.bind_eq_some_iff.mp H
               obtain ⟨t113,A270,H⟩ := H
               replace H : (if x9_4.length + t113.length < 140737488355328 then (qwq.l3 k4 (x9_4 ++ t113) x3_3 (x3_3.length : Int) (wrap64 (x45_4 + 1))) else (none)) = some r := H
               have A27 := qq.mk A270
               clear A270
               by_cases c28 : x9_4.length + t113.length < 140737488355328
               ·rw [if_pos c28] at H
                have LMc28 := qq.mk c28
                clear c28
                obtain ⟨y116,hy116⟩ : ∃ y_ : List Int,y_ = (x9_4 ++ t113) := ⟨_,rfl⟩
                replace H : (qwq.l3 k4 y116 x3_3 (x3_3.length : Int) (wrap64 (x45_4 + 1))) = some r := by first | (rw [hy116];with_reducible exact H) | (have H2_ := (Option.bind_some _ _).symm.trans H;rw [hy116];with_reducible exact H2_) | (have H2_ := (Option.bind_some _ _).symm.trans H;with_reducible exact H2_) | with_reducible exact H | (rw [hy116];exact H) | exact H
                have Ny116 := qq.mk hy116
                clear hy116
                have H' := qq.mk H
                clear H
                have p112 : 0 ≤ (x45_4 : Int) := of_decide_eq_true (by assumption)
                have q112 : x45_4 < (x3_3.length : Int) := of_decide_eq_true (by assumption)
                obtain ⟨ad112,e112,hx112_0⟩ := Kd.at_int (Kd.R_reads' HO_43.out).2.2 x45_4 p112 q112
                cases e112
                replace p112 := eq_true p112
                replace q112 := eq_true q112
                go_wp2_with (first | ((with_reducible refine jv (f := 115) rfl ?_);refine goesL_ (some 51) rfl rfl Try.func115 (by kernel_rfl) rfl #[.int .i64 (rd x3_3 x45_4)] rfl (by (try simp only [List.map_toArray,List.map_cons,List.map_nil]);first | done | rfl | (simp only [List.length_drop,List.length_take];rfl)) ?_;(with_reducible refine (qvx.calls k4 (rd x3_3 x45_4) t113 _ A27.out).mono ?_);rintro e w29 ⟨v114,rfl,ho0,hb⟩;refine ⟨_,rfl,?_⟩;have n0_ := qq.mk (Kd.R_elder' (by (with_reducible repeat (first | apply Kd.jq | apply Kd.zx | apply Kd.jz));exact HO_9.out) (Kd.R_base ho0) hb);have n1_ := qq.mk (Kd.R_below (by (with_reducible repeat (first | apply Kd.jq | apply Kd.zx | apply Kd.jz));exact HO_43.out) hb);have n2_ := qq.mk (Kd.R_lower (Kd.R_new' ho0 (Kd.R_lt (by (with_reducible repeat (first | apply Kd.jq | apply Kd.zx | apply Kd.jz));exact HO_9.out))) (zw (by repeat (first | (with_reducible first | exact HB.out | apply qj | apply qz | apply qk) | exact HB.out))));have n3_ := qq.mk (zv (by repeat (first | (with_reducible first | exact HB.out | apply qj | apply qz | apply qk) | exact HB.out)) hb);clear HO_9;clear HO_43;clear HB;have HO_9 := n0_;have HO_43 := n1_;have HO115 := n2_;have HB := n3_;clear n0_ n1_ n2_ n3_;(try clear hb);(try clear hb2);(try clear hk);(try clear hi);(try clear ho0);obtain ⟨Ao31,co31,eo31⟩ := Kd.R_slice HO115.out;subst eo31) | ((with_reducible refine gate_builtin (b := .append) (xs := #[.tmp 49,.tmp 51]) rfl ?_);at_builtin;refine Kd.R_append_rows (Kd.int .u8) (w0 := w) w.heap.size rfl (.tmp 49) (.tmp 51) 22 5 (.int .u8 0) 1 rfl Try.underlying22 info5 rfl (by decide) (by omega) u9 x9_4 t113 _ _ _ (fun k_ => some k_ ≠ (.slice Ao31 t113.length co31 : Value).ownBlock) (fun _ => False) rfl rfl ?aO ?aR (fun _ _ h => h) (fun _ h => h.elim) ?aF ?aB ?aS ?aL ?_;(case aR => repeat (first | exact (Kd.R_reads' HO115.out).2.2 | (with_reducible refine Kd.C_alloc ?_ _) | (with_reducible refine Kd.C_drewN ?_ _) | (with_reducible refine Kd.C_drew ?_)));(case aB => exact (by repeat (first | (with_reducible first | exact HB.out | apply qj | apply qz | apply qk) | exact HB.out)));(case aF => exact (fun k_ hk => Kd.fresh' (Kd.R_lt (by (with_reducible repeat (first | apply Kd.jq | apply Kd.zx | apply Kd.jz));exact HO115.out)) k_ hk));(case aO => exact (by (with_reducible repeat (first | apply Kd.jq | apply Kd.zx | apply Kd.jz));exact Kd.R_mono HO_9.out (fun _ hk => hk.2)));(case aS => exact (zw (by repeat (first | (with_reducible first | exact HB.out | apply qj | apply qz | apply qk) | exact HB.out))));(case aL => have := LMc28.out;omega);intro v117 w30 ho hb hg hat;rw [← Ny116.out] at ho;have n0_ := qq.mk (Kd.R_over' (by (with_reducible repeat (first | apply Kd.jq | apply Kd.zx | apply Kd.jz));exact HO_43.out) (Kd.R_typed (by (with_reducible repeat (first | apply Kd.jq | apply Kd.zx | apply Kd.jz));exact HO_9.out)) (by decide) hg);have n1_ := qq.mk (Kd.R_after (ok := (fun _ => True)) (by (with_reducible repeat (first | apply Kd.jq | apply Kd.zx | apply Kd.jz));exact HO115.out) hg hat);have n2_ := qq.mk (hb);have n3_ := qq.mk (ho);clear HO_43;clear HO115;clear HB;clear HO_9;have HO_43 := n0_;have HO115 := n1_;have HB := n2_;have HO118 := n3_;clear n0_ n1_ n2_ n3_;clear ho hb hg hat))
                go_roundg k4
                case measure => have := HK1.out;have := HK2.out;have := HK3.out;have := HK4.out;omega
                case rel => exact ⟨(y116),(wrap64 (x45_4 + 1)),(by first | rfl | (simp;done) | (simp [*];done)),H',⟨by have := HK1.out;have := HK2.out;have := HK3.out;have := HK4.out;omega⟩,⟨by (with_reducible repeat (first | apply Kd.jq | apply Kd.zx | apply Kd.jz));exact Kd.R_mono HO118.out (fun _ hk => trivial)⟩,⟨by (with_reducible repeat (first | apply Kd.jq | apply Kd.zx | apply Kd.jz));exact HO_43.out⟩,⟨by repeat (first | (with_reducible first | exact HB.out | apply qj | apply qz | apply qk) | exact HB.out)⟩⟩
               ·rw [if_neg c28] at H
                exact absurd H (by simp)
              ·rw [if_neg c26] at H
               exact absurd H (by simp)
             ·rw [if_neg c25] at H
              exact absurd H (by simp)
            ·rw [if_neg c24] at H
             have c24b0 : decide (x45_4 < (x3_3.length : Int)) = false := decide_eq_false c24
             clear c24
             obtain rfl := Option.some.inj H
             go_wp2
             go_ret
             exact ⟨_,by first | rfl | (simp [*,jk,jj] <;> rfl),by (with_reducible repeat (first | apply Kd.jq | apply Kd.zx | apply Kd.jz));exact HO_9.out,by repeat (first | (with_reducible first | exact HB.out | apply qj | apply qz | apply qk) | exact HB.out)⟩
def qwk.f (k : Nat) (l0 : List Int) (l1 : List Int) : Option (List Int) := if ([] : List Int).length + l0.length < 140737488355328 then ((some (([] : List Int) ++ l0 : List Int)).bind fun y101 => (if y101.length + l1.length < 140737488355328 then ((qwq.f k (y101 ++ l1)).bind fun t107 => (some t107)) else (none))) else (none)
set_option maxHeartbeats 8000000 in
set_option maxRecDepth 100000 in
theorem qwk.calls (k : Nat) (A0 : Option Addr) (c0 : Nat) (l0 : List Int) (A1 : Option Addr) (c1 : Nat) (l1 : List Int) (r : List Int) (w : World) (hr0 : Kd.C (Kd.int .u8) w A0 l0.length l0) (hc0 : l0.length ≤ c0) (hr1 : Kd.C (Kd.int .u8) w A1 l1.length l1) (hc1 : l1.length ≤ c1) (h : qwk.f k l0 l1 = some r) :
  Calls Try.prog 136 #[.slice A0 l0.length c0,.slice A1 l1.length c1] w fun e w' => ∃ v0_ : Value,e = .returned (v0_) ∧ Kd.R (Kd.int .u8) 5 w' w.heap.size (fun _ => True) v0_ r ∧ Below w.heap.size w w' := by
 have HR0 := qq.mk hr0
 have HC0 := qq.mk hc0
 clear hr0 hc0
 have HR1 := qq.mk hr1
 have HC1 := qq.mk hc1
 clear hr1 hc1
 have HB := qq.mk (Below.refl w.heap.size w)
 have H : (if ([] : List Int).length + l0.length < 140737488355328 then ((some (([] : List Int) ++ l0 : List Int)).bind fun y101 => (if y101.length + l1.length < 140737488355328 then ((qwq.f k (y101 ++ l1)).bind fun t107 => (some t107)) else (none))) else (none)) = some r := h
 clear h
 by_cases c3 : ([] : List Int).length + l0.length < 140737488355328
 ·rw [if_pos c3] at H
  have LMc3 := qq.mk c3
  clear c3
  obtain ⟨y101,hy101⟩ : ∃ y_ : List Int,y_ = (([] : List Int) ++ l0) := ⟨_,rfl⟩
  replace H : (if y101.length + l1.length < 140737488355328 then ((qwq.f k (y101 ++ l1)).bind fun t107 => (some t107)) else (none)) = some r := by first | (rw [hy101];with_reducible exact H) | (have H2_ := (Option.bind_some _ _).symm.trans H;rw [hy101];with_reducible exact H2_) | (have H2_ := (Option.bind_some _ _).symm.trans H;with_reducible exact H2_) | with_reducible exact H | (rw [hy101];exact H) | exact H
  have Ny101 := qq.mk hy101
  clear hy101
  by_cases c4 : y101.length + l1.length < 140737488355328
  ·rw [if_pos c4] at H
   have LMc4 := qq.mk c4
   clear c4
   obtain ⟨y104,hy104⟩ : ∃ y_ : List Int,y_ = (y101 ++ l1) := ⟨_,rfl⟩
   replace H : ((qwq.f k y104).bind fun t107 => (some t107)) = some r := by first | (rw [hy104];with_reducible exact H) | (have H2_ := (Option.bind_some _ _).symm.trans H;rw [hy104];with_reducible exact H2_) | (have H2_ := (Option.bind_some _ _).symm.trans H;with_reducible exact H2_) | with_reducible exact H | (rw [hy104];exact H) | exact H
   have Ny104 := qq.mk hy104
   clear hy104
   replace H := Option.bind_eq_some_iff.mp H
   obtain ⟨t107,A50,H⟩ := H
   replace H : (some t107) = some r := H
   have A5 := qq.mk A50
   clear A50
   obtain rfl := Option.some.inj H
   go_enter Try.func136,Try.ntmps136
   go_wp2_with (first | ((with_reducible refine gate_builtin (b := .append) (xs := #[.tmp 6,.tmp 7]) rfl ?_);at_builtin;refine Kd.R_append_rows (Kd.int .u8) (w0 := w) w.heap.size rfl (.tmp 6) (.tmp 7) 22 5 (.int .u8 0) 1 rfl Try.underlying22 info5 rfl (by decide) (by omega) (.slice none 0 0) ([] : List Int) l0 _ _ _ (fun _ => True) (fun _ => False) rfl rfl ?aO ?aR (fun _ _ h => h) (fun _ h => h.elim) ?aF ?aB ?aS ?aL ?_;(case aR => repeat (first | exact HR0.out | (with_reducible refine Kd.C_alloc ?_ _) | (with_reducible refine Kd.C_drewN ?_ _) | (with_reducible refine Kd.C_drew ?_)));(case aB => exact (by repeat (first | (with_reducible first | exact HB.out | apply qj | apply qz | apply qk) | exact HB.out)));(case aF => exact (fun _ _ => trivial));(case aO => exact ((Kd.R_nil _ _ _ _ (fun _ => True))));(case aS => exact (zw (by repeat (first | (with_reducible first | exact HB.out | apply qj | apply qz | apply qk) | exact HB.out))));(case aL => have := LMc3.out;omega);intro v102 w6 ho hb hg hat;rw [← Ny101.out] at ho;have n0_ := qq.mk (hb);have n1_ := qq.mk (ho);clear HB;have HB := n0_;have HO103 := n1_;clear n0_ n1_;clear ho hb hg hat) | ((with_reducible refine gate_builtin (b := .append) (xs := #[.tmp 8,.tmp 9]) rfl ?_);at_builtin;refine Kd.R_append_rows (Kd.int .u8) (w0 := w) w.heap.size rfl (.tmp 8) (.tmp 9) 22 5 (.int .u8 0) 1 rfl Try.underlying22 info5 rfl (by decide) (by omega) v102 y101 l1 _ _ _ (fun _ => True) (fun _ => False) rfl rfl ?aO ?aR (fun _ _ h => h) (fun _ h => h.elim) ?aF ?aB ?aS ?aL ?_;(case aR => repeat (first | exact (Kd.C_below HR1.out HB.out) | (with_reducible refine Kd.C_alloc ?_ _) | (with_reducible refine Kd.C_drewN ?_ _) | (with_reducible refine Kd.C_drew ?_)));(case aB => exact (by repeat (first | (with_reducible first | exact HB.out | apply qj | apply qz | apply qk) | exact HB.out)));(case aF => exact (fun _ _ => trivial));(case aO => exact (by (with_reducible repeat (first | apply Kd.jq | apply Kd.zx | apply Kd.jz));exact HO103.out));(case aS => exact (zw (by repeat (first | (with_reducible first | exact HB.out | apply qj | apply qz | apply qk) | exact HB.out))));(case aL => have := LMc4.out;omega);intro v105 w7 ho hb hg hat;rw [← Ny104.out] at ho;have n0_ := qq.mk (hb);have n1_ := qq.mk (ho);clear HB;clear HO103;have HB := n0_;have HO106 := n1_;clear n0_ n1_;clear ho hb hg hat;obtain ⟨Ao8,co8,eo8⟩ := Kd.R_slice HO106.out;subst eo8) | ((with_reducible refine jv (f := 116) rfl ?_);refine goesL_ (some 11) rfl rfl Try.func116 (by kernel_rfl) rfl #[.slice Ao8 y104.length co8] rfl (by (try simp only [List.map_toArray,List.map_cons,List.map_nil]);first | done | rfl | (simp only [List.length_drop,List.length_take];rfl)) ?_;(with_reducible refine (qwq.calls k _ _ y104 t107 _ ?side1 ?side2 A5.out).mono ?_);(case side1 => repeat (first | exact (Kd.R_reads' HO106.out).2.2 | (with_reducible refine Kd.C_alloc ?_ _) | (with_reducible refine Kd.C_drewN ?_ _) | (with_reducible refine Kd.C_drew ?_)));(case side2 => exact (Kd.R_reads' HO106.out).2.1);rintro e w9 ⟨v108,rfl,ho0,hb⟩;refine ⟨_,rfl,?_⟩;have n0_ := qq.mk (Kd.R_elder' (by (with_reducible repeat (first | apply Kd.jq | apply Kd.zx | apply Kd.jz));exact HO106.out) (Kd.R_base ho0) hb);have n1_ := qq.mk (Kd.R_lower (Kd.R_new' ho0 (Kd.R_lt (by (with_reducible repeat (first | apply Kd.jq | apply Kd.zx | apply Kd.jz));exact HO106.out))) (zw (by repeat (first | (with_reducible first | exact HB.out | apply qj | apply qz | apply qk) | exact HB.out))));have n2_ := qq.mk (zv (by repeat (first | (with_reducible first | exact HB.out | apply qj | apply qz | apply qk) | exact HB.out)) hb);clear HO106;clear HB;have HO106 := n0_;have HO109 := n1_;have HB := n2_;clear n0_ n1_ n2_;(try clear hb);(try clear hb2);(try clear hk);(try clear hi);(try clear ho0)))
   go_ret
   exact ⟨_,by first | rfl | (simp [*,jk,jj] <;> rfl),by (with_reducible repeat (first | apply Kd.jq | apply Kd.zx | apply Kd.jz));exact Kd.R_mono HO109.out (fun _ hk => trivial),by repeat (first | (with_reducible first | exact HB.out | apply qj | apply qz | apply qk) | exact HB.out)⟩
  ·rw [if_neg c4] at H
   exact absurd H (by simp)
 ·rw [if_neg c3] at H
  exact absurd H (by simp)
def qwz.f (k : Nat) (l0 : List Int) (l1 : List Int) : Option (List Int) := (qwq.f k l0).bind fun t101 => ((qwq.f k l1).bind fun t104 => ((qwk.f k t101 t104).bind fun t107 => (some t107)))
set_option maxHeartbeats 8000000 in
set_option maxRecDepth 100000 in
theorem qwz.calls (k : Nat) (A0 : Option Addr) (c0 : Nat) (l0 : List Int) (A1 : Option Addr) (c1 : Nat) (l1 : List Int) (r : List Int) (w : World) (hr0 : Kd.C (Kd.int .u8) w A0 l0.length l0) (hc0 : l0.length ≤ c0) (hr1 : Kd.C (Kd.int .u8) w A1 l1.length l1) (hc1 : l1.length ≤ c1) (h : qwz.f k l0 l1 = some r) :
  Calls Try.prog 114 #[.slice A0 l0.length c0,.slice A1 l1.length c1] w fun e w' => ∃ v0_ : Value,e = .returned (v0_) ∧ Kd.R (Kd.int .u8) 5 w' w.heap.size (fun _ => True) v0_ r ∧ Below w.heap.size w w' := by
 have HR0 := qq.mk hr0
 have HC0 := qq.mk hc0
 clear hr0 hc0
 have HR1 := qq.mk hr1
 have HC1 := qq.mk hc1
 clear hr1 hc1
 have HB := qq.mk (Below.refl w.heap.size w)
 have H : ((qwq.f k l0).bind fun t101 => ((qwq.f k l1).bind fun t104 => ((qwk.f k t101 t104).bind fun t107 => (some t107)))) = some r := h
 clear h
 replace H := Option.bind_eq_some_iff.mp H
 obtain ⟨t101,A30,H⟩ := H
 replace H : ((qwq.f k l1).bind fun t104 => ((qwk.f k t101 t104).bind fun t107 => (some t107))) = some r := H
 have A3 := qq.mk A30
 clear A30
 replace H := Option.bind_eq_some_iff.mp H
 obtain ⟨t104,A40,H⟩ := H
 replace H : ((qwk.f k t101 t104).bind fun t107 => (some t107)) = some r := H
 have A4 := qq.mk A40
 clear A40
 replace H := Option.bind_eq_some_iff.mp H
 obtain ⟨t107,A50,H⟩ := H
 replace H : (some t107) = some r := H
 have A5 := qq.mk A50
 clear A50
 obtain rfl := Option.some.inj H
 go_enter Try.func114,Try.ntmps114
 go_wp2_with (first | ((with_reducible refine jv (f := 116) rfl ?_);refine goesL_ (some 6) rfl rfl Try.func116 (by kernel_rfl) rfl #[.slice A0 l0.length c0] rfl (by (try simp only [List.map_toArray,List.map_cons,List.map_nil]);first | done | rfl | (simp only [List.length_drop,List.length_take];rfl)) ?_;(with_reducible refine (qwq.calls k _ _ l0 t101 _ ?side1 ?side2 A3.out).mono ?_);(case side1 => repeat (first | exact HR0.out | (with_reducible refine Kd.C_alloc ?_ _) | (with_reducible refine Kd.C_drewN ?_ _) | (with_reducible refine Kd.C_drew ?_)));(case side2 => exact HC0.out);rintro e w6 ⟨v102,rfl,ho0,hb⟩;refine ⟨_,rfl,?_⟩;have n0_ := qq.mk (Kd.R_lower ho0 (zw (by repeat (first | (with_reducible first | exact HB.out | apply qj | apply qz | apply qk) | exact HB.out))));have n1_ := qq.mk (zv (by repeat (first | (with_reducible first | exact HB.out | apply qj | apply qz | apply qk) | exact HB.out)) hb);clear HB;have HO103 := n0_;have HB := n1_;clear n0_ n1_;(try clear hb);(try clear hb2);(try clear hk);(try clear hi);(try clear ho0)) | ((with_reducible refine jv (f := 116) rfl ?_);refine goesL_ (some 8) rfl rfl Try.func116 (by kernel_rfl) rfl #[.slice A1 l1.length c1] rfl (by (try simp only [List.map_toArray,List.map_cons,List.map_nil]);first | done | rfl | (simp only [List.length_drop,List.length_take];rfl)) ?_;(with_reducible refine (qwq.calls k _ _ l1 t104 _ ?side1 ?side2 A4.out).mono ?_);(case side1 => repeat (first | exact (Kd.C_below HR1.out HB.out) | (with_reducible refine Kd.C_alloc ?_ _) | (with_reducible refine Kd.C_drewN ?_ _) | (with_reducible refine Kd.C_drew ?_)));(case side2 => exact HC1.out);rintro e w7 ⟨v105,rfl,ho0,hb⟩;refine ⟨_,rfl,?_⟩;have n0_ := qq.mk (Kd.R_elder' (by (with_reducible repeat (first | apply Kd.jq | apply Kd.zx | apply Kd.jz));exact HO103.out) (Kd.R_base ho0) hb);have n1_ := qq.mk (Kd.R_lower (Kd.R_new' ho0 (Kd.R_lt (by (with_reducible repeat (first | apply Kd.jq | apply Kd.zx | apply Kd.jz));exact HO103.out))) (zw (by repeat (first | (with_reducible first | exact HB.out | apply qj | apply qz | apply qk) | exact HB.out))));have n2_ := qq.mk (zv (by repeat (first | (with_reducible first | exact HB.out | apply qj | apply qz | apply qk) | exact HB.out)) hb);clear HO103;clear HB;have HO103 := n0_;have HO106 := n1_;have HB := n2_;clear n0_ n1_ n2_;(try clear hb);(try clear hb2);(try clear hk);(try clear hi);(try clear ho0);obtain ⟨Ao8,co8,eo8⟩ := Kd.R_slice HO103.out;subst eo8;obtain ⟨Ao9,co9,eo9⟩ := Kd.R_slice HO106.out;subst eo9) | ((with_reducible refine jv (f := 136) rfl ?_);refine goesL_ (some 9) rfl rfl Try.func136 (by kernel_rfl) rfl #[.slice Ao8 t101.length co8,.slice Ao9 t104.length co9] rfl (by (try simp only [List.map_toArray,List.map_cons,List.map_nil]);first | done | rfl | (simp only [List.length_drop,List.length_take];rfl)) ?_;(with_reducible refine (qwk.calls k _ _ t101 _ _ t104 t107 _ ?side1 ?side2 ?side3 ?side4 A5.out).mono ?_);(case side1 => repeat (first | exact (Kd.R_reads' HO103.out).2.2 | (with_reducible refine Kd.C_alloc ?_ _) | (with_reducible refine Kd.C_drewN ?_ _) | (with_reducible refine Kd.C_drew ?_)));(case side2 => exact (Kd.R_reads' HO103.out).2.1);(case side3 => repeat (first | exact (Kd.R_reads' HO106.out).2.2 | (with_reducible refine Kd.C_alloc ?_ _) | (with_reducible refine Kd.C_drewN ?_ _) | (with_reducible refine Kd.C_drew ?_)));(case side4 => exact (Kd.R_reads' HO106.out).2.1);rintro e w10 ⟨v108,rfl,ho0,hb⟩;refine ⟨_,rfl,?_⟩;have n0_ := qq.mk (Kd.R_elder' (by (with_reducible repeat (first | apply Kd.jq | apply Kd.zx | apply Kd.jz));exact HO103.out) (Kd.R_base ho0) hb);have n1_ := qq.mk (Kd.R_elder' (by (with_reducible repeat (first | apply Kd.jq | apply Kd.zx | apply Kd.jz));exact HO106.out) (Kd.R_base ho0) hb);have n2_ := qq.mk (Kd.R_lower (Kd.R_new' (Kd.R_new' ho0 (Kd.R_lt (by (with_reducible repeat (first | apply Kd.jq | apply Kd.zx | apply Kd.jz));exact HO103.out))) (Kd.R_lt (by (with_reducible repeat (first | apply Kd.jq | apply Kd.zx | apply Kd.jz));exact HO106.out))) (zw (by repeat (first | (with_reducible first | exact HB.out | apply qj | apply qz | apply qk) | exact HB.out))));have n3_ := qq.mk (zv (by repeat (first | (with_reducible first | exact HB.out | apply qj | apply qz | apply qk) | exact HB.out)) hb);clear HO103;clear HO106;clear HB;have HO103 := n0_;have HO106 := n1_;have HO109 := n2_;have HB := n3_;clear n0_ n1_ n2_ n3_;(try clear hb);(try clear hb2);(try clear hk);(try clear hi);(try clear ho0)))
 go_ret
 exact ⟨_,by first | rfl | (simp [*,jk,jj] <;> rfl),by (with_reducible repeat (first | apply Kd.jq | apply Kd.zx | apply Kd.jz));exact Kd.R_mono HO109.out (fun _ hk => trivial),by repeat (first | (with_reducible first | exact HB.out | apply qj | apply qz | apply qk) | exact HB.out)⟩
end Go.Proofs.Ytipdkendfcopiaa.Pr
namespace Go.Proofs.Ytipdkendfcopiaa.Pr
open Go.RowKit Go.Proofs.YtipdkendfcopiaaW.PrintWords Go.Proofs.YtipdkendfcopiaaW.PrintLast Go.Proofs.YtipdkendfcopiaaW.PrintMore
attribute [local go_sem] max2_int min2_int max_two min_two max_three min_three max_four min_four
set_option linter.unusedVariables false
set_option linter.unusedSimpArgs false
def qkk.l0 : Nat → ByteArray → Int → Option (Bool)
 | 0,_,_ => none
 | k + 1,x0,x3 => if x3 < (x0.size : Int) then (if 0 ≤ x3 then (if (bt x0 x3) < 32 then (some false) else (if (bt x0 x3) > 126 then (some false) else (qkk.l0 k x0 (wrap64 (x3 + 1))))) else (none)) else (some true)
def qkk.f (k : Nat) (a0 : ByteArray) : Option (Bool) := qkk.l0 k a0 0
set_option maxHeartbeats 8000000 in
set_option maxRecDepth 100000 in
theorem qkk.calls (k : Nat) (a0 : ByteArray) (r : Bool) (w : World) (h : qkk.f k a0 = some r) :
  Calls Try.prog 70 #[.string a0] w fun e w' => e = .returned (.bool r) ∧ Drawn0 w w' := by
 have H : (qkk.l0 k a0 0) = some r := h
 clear h
 have H' := qq.mk H
 clear H
 go_enter Try.func70,Try.ntmps70
 go_wp2
 go_loopg [3] k (fun kq v3 w' => ∃ (x3_1 : Int),v3 = .int .i64 x3_1 ∧ qq (qkk.l0 kq a0 x3_1 = some r) ∧ qq (kq ≤ k) ∧ Drawn0 w w')
 case atStart => exact ⟨(0),(by first | rfl | (simp;done) | (simp [*];done)),H',⟨Nat.le_refl _⟩,by repeat (first | exact Drawn0.refl _ | apply Drawn0.step)⟩
 case round =>
  clear H'
  obtain ⟨x3_1,rfl,HA,HK1,⟨m1,rfl⟩⟩ := hrel
  cases gk with
  | zero => exact absurd HA.out (by simp [qkk.l0])
  | succ k1 =>
   have H := HA.out
   clear HA
   simp only [qkk.l0] at H
   by_cases c2 : x3_1 < (a0.size : Int)
   ·rw [if_pos c2] at H
    have c2b0 : decide (x3_1 < (a0.size : Int)) = true := decide_eq_true c2
    clear c2
    by_cases c3 : 0 ≤ x3_1
    ·rw [if_pos c3] at H
     have c3b0 : decide (0 ≤ x3_1) = true := decide_eq_true c3
     clear c3
     by_cases c5 : (bt a0 x3_1) < 32
     ·rw [if_pos c5] at H
      have c5b0 : decide ((bt a0 x3_1) < 32) = true := decide_eq_true c5
      clear c5
      obtain rfl := Option.some.inj H
      have p4 : 0 ≤ (x3_1 : Int) := of_decide_eq_true (by assumption)
      have q4 : x3_1 < (a0.size : Int) := of_decide_eq_true (by assumption)
      have hx4 := bt_at a0 x3_1
      replace p4 := eq_true p4
      replace q4 := eq_true q4
      go_wp2
      go_ret
      exact ⟨by first | rfl | (simp;done) | (simp [*];done),by repeat (first | exact Drawn0.refl _ | apply Drawn0.step)⟩
     ·rw [if_neg c5] at H
      have c5b0 : decide ((bt a0 x3_1) < 32) = false := decide_eq_false c5
      clear c5
      by_cases c7 : (bt a0 x3_1) > 126
      ·rw [if_pos c7] at H
       have c7b0 : decide (126 < (bt a0 x3_1)) = true := decide_eq_true c7
       clear c7
       obtain rfl := Option.some.inj H
       have p4 : 0 ≤ (x3_1 : Int) := of_decide_eq_true (by assumption)
       have q4 : x3_1 < (a0.size : Int) := of_decide_eq_true (by assumption)
       have hx4 := bt_at a0 x3_1
       replace p4 := eq_true p4
       replace q4 := eq_true q4
       have p6 : 0 ≤ (x3_1 : Int) := of_decide_eq_true (by assumption)
       have q6 : x3_1 < (a0.size : Int) := of_decide_eq_true (by assumption)
       have hx6 := bt_at a0 x3_1
       replace p6 := eq_true p6
       replace q6 := eq_true q6
       go_wp2
       go_ret
       exact ⟨by first | rfl | (simp;done) | (simp [*];done),by repeat (first | exact Drawn0.refl _ | apply Drawn0.step)⟩
      ·rw [if_neg c7] at H
       have c7b0 : decide (126 < (bt a0 x3_1)) = false := decide_eq_false c7
       clear c7
       have H' := qq.mk H
       clear H
       have p4 : 0 ≤ (x3_1 : Int) := of_decide_eq_true (by assumption)
       have q4 : x3_1 < (a0.size : Int) := of_decide_eq_true (by assumption)
       have hx4 := bt_at a0 x3_1
       replace p4 := eq_true p4
       replace q4 := eq_true q4
       have p6 : 0 ≤ (x3_1 : Int) := of_decide_eq_true (by assumption)
       have q6 : x3_1 < (a0.size : Int) := of_decide_eq_true (by assumption)
       have hx6 := bt_at a0 x3_1
       replace p6 := eq_true p6
       replace q6 := eq_true q6
       go_wp2
       go_roundg k1
       case measure => have := HK1.out;omega
       case rel => exact ⟨(wrap64 (x3_1 + 1)),(by first | rfl | (simp;done) | (simp [*];done)),H',⟨by have := HK1.out;omega⟩,by repeat (first | exact Drawn0.refl _ | apply Drawn0.step)⟩
    ·rw [if_neg c3] at H
     exact absurd H (by simp)
   ·rw [if_neg c2] at H
    have c2b0 : decide (x3_1 < (a0.size : Int)) = false := decide_eq_false c2
    clear c2
    obtain rfl := Option.some.inj H
    go_wp2
    go_ret
    exact ⟨by first | rfl | (simp;done) | (simp [*];done),by repeat (first | exact Drawn0.refl _ | apply Drawn0.step)⟩
def qvv.f (a0_0 : Int) (a0_1 : ByteArray) (a0_2 : ByteArray) (l0_3 : List Int) (l0_4 : List Int) : Option (Bool) := some ((l0_4.length : Int) == 0)
set_option maxHeartbeats 8000000 in
set_option maxRecDepth 100000 in
theorem qvv.calls (a0_0 : Int) (a0_1 : ByteArray) (a0_2 : ByteArray) (A0_3 : Option Addr) (c0_3 : Nat) (l0_3 : List Int) (A0_4 : Option Addr) (c0_4 : Nat) (l0_4 : List Int) (r : Bool) (w : World) (hr0_3 : Kd.C (Kd.int .u8) w A0_3 l0_3.length l0_3) (hc0_3 : l0_3.length ≤ c0_3) (hr0_4 : Kd.C (Kd.int .u8) w A0_4 l0_4.length l0_4) (hc0_4 : l0_4.length ≤ c0_4) (h : qvv.f a0_0 a0_1 a0_2 l0_3 l0_4 = some r) :
  Calls Try.prog 71 #[.agg #[.int .i64 a0_0,.string a0_1,.string a0_2,.slice A0_3 l0_3.length c0_3,.slice A0_4 l0_4.length c0_4]] w fun e w' => e = .returned (.bool r) ∧ Below w.heap.size w w' := by
 have hu27 := Try.underlying27
 have HR0_3 := qq.mk hr0_3
 have HC0_3 := qq.mk hc0_3
 clear hr0_3 hc0_3
 have HR0_4 := qq.mk hr0_4
 have HC0_4 := qq.mk hc0_4
 clear hr0_4 hc0_4
 have HB := qq.mk (Below.refl w.heap.size w)
 have H : (some ((l0_4.length : Int) == 0)) = some r := h
 clear h
 obtain rfl := Option.some.inj H
 go_enter Try.func71,Try.ntmps71
 go_wp2_with (first | ((with_reducible refine gate_dst (N := 1) rfl ?_);refine box_event ?hg (N := 1) ?hd (cs := #[.int .i64 a0_0,.string a0_1,.string a0_2,.slice A0_3 l0_3.length c0_3,.slice A0_4 l0_4.length c0_4]) (t := 27) ?hr ?_;(case hd => rfl);(case hg => rfl);(case hr => first | (go_simp;done) | (go_simp;rfl));intro gb101 hg w2 hbox hb;have n0_ := qq.mk (zv (by repeat (first | (with_reducible first | exact HB.out | apply qj | apply qz | apply qk) | exact HB.out)) hb);have n1_ := qq.mk (hbox);have n2_ := qq.mk ((by rw [hg];exact (zw (by repeat (first | (with_reducible first | exact HB.out | apply qj | apply qz | apply qk) | exact HB.out))) : w.heap.size ≤ gb101));have n3_ := qq.mk ((by rw [hg];exact (zw (by repeat (first | (with_reducible first | exact HB.out | apply qj | apply qz | apply qk) | exact HB.out))) : w.heap.size ≤ gb101));clear HB;have HB := n0_;have BK101 := n1_;have GW101 := n2_;have GE101 := n3_;clear n0_ n1_ n2_ n3_;clear hb hbox hg;have hcz3_0 : w2.cell? ⟨gb101,0,none⟩ = some (.int .i64 a0_0) := (qw BK101.out 0).trans rfl;have hcz3_1 : w2.cell? ⟨gb101,1,none⟩ = some (.string a0_1) := (qw BK101.out 1).trans rfl;have hcz3_2 : w2.cell? ⟨gb101,2,none⟩ = some (.string a0_2) := (qw BK101.out 2).trans rfl;have hcz3_3 : w2.cell? ⟨gb101,3,none⟩ = some (.slice A0_3 l0_3.length c0_3) := (qw BK101.out 3).trans rfl;have hcz3_4 : w2.cell? ⟨gb101,4,none⟩ = some (.slice A0_4 l0_4.length c0_4) := (qw BK101.out 4).trans rfl;have hfz3_0 := qv BK101.out 0;have hfz3_1 := qv BK101.out 1;have hfz3_2 := qv BK101.out 2;have hfz3_3 := qv BK101.out 3;have hfz3_4 := qv BK101.out 4))
 go_ret
 exact ⟨by first | rfl | (simp [*,jk,jj] <;> rfl),by repeat (first | (with_reducible first | exact HB.out | apply qj | apply qz | apply qk | refine qx ?_ GE101.out) | exact HB.out)⟩
def qkj.j0 : Nat → Bool → Int → ByteArray → ByteArray → List Int → List Int → Option (Bool)
 | 0,_,_,_,_,_,_ => none
 | k + 1,x22,x102000,x102001,x102002,x102003,x102004 => if x22 = true then (some false) else ((qvv.f x102000 x102001 x102002 x102003 x102004).bind fun t103 => (if t103 = true then (if (x102002.size : Int) ≤ 200 then ((qkk.f k x102002).bind fun t104 => (if t104 = true then (some (decide ((x102003.length : Int) ≤ 20))) else (some false))) else (some false)) else (if (x102004.length : Int) = 16 then (if x102002.toList = ([] : List UInt8) then (some ((x102003.length : Int) == 0)) else (some false)) else (some false))))
def qkj.f (k : Nat) (a0_0 : Int) (a0_1 : ByteArray) (a0_2 : ByteArray) (l0_3 : List Int) (l0_4 : List Int) : Option (Bool) := if a0_0 < 0 then (qkj.j0 k true a0_0 a0_1 a0_2 l0_3 l0_4) else (if a0_0 > 100000000000 then (qkj.j0 k true a0_0 a0_1 a0_2 l0_3 l0_4) else (if (a0_1.size : Int) > 60 then (qkj.j0 k true a0_0 a0_1 a0_2 l0_3 l0_4) else ((qkk.f k a0_1).bind fun t102 => (qkj.j0 k (!t102) a0_0 a0_1 a0_2 l0_3 l0_4))))
set_option maxHeartbeats 8000000 in
set_option maxRecDepth 100000 in
theorem qkj.calls (k : Nat) (a0_0 : Int) (a0_1 : ByteArray) (a0_2 : ByteArray) (A0_3 : Option Addr) (c0_3 : Nat) (l0_3 : List Int) (A0_4 : Option Addr) (c0_4 : Nat) (l0_4 : List Int) (r : Bool) (w : World) (hr0_3 : Kd.C (Kd.int .u8) w A0_3 l0_3.length l0_3) (hc0_3 : l0_3.length ≤ c0_3) (hr0_4 : Kd.C (Kd.int .u8) w A0_4 l0_4.length l0_4) (hc0_4 : l0_4.length ≤ c0_4) (h : qkj.f k a0_0 a0_1 a0_2 l0_3 l0_4 = some r) :
  Calls Try.prog 18 #[.agg #[.int .i64 a0_0,.string a0_1,.string a0_2,.slice A0_3 l0_3.length c0_3,.slice A0_4 l0_4.length c0_4]] w fun e w' => e = .returned (.bool r) ∧ Below w.heap.size w w' := by
 have hu27 := Try.underlying27
 have HR0_3 := qq.mk hr0_3
 have HC0_3 := qq.mk hc0_3
 clear hr0_3 hc0_3
 have HR0_4 := qq.mk hr0_4
 have HC0_4 := qq.mk hc0_4
 clear hr0_4 hc0_4
 have HB := qq.mk (Below.refl w.heap.size w)
 have H : (if a0_0 < 0 then (qkj.j0 k true a0_0 a0_1 a0_2 l0_3 l0_4) else (if a0_0 > 100000000000 then (qkj.j0 k true a0_0 a0_1 a0_2 l0_3 l0_4) else (if (a0_1.size : Int) > 60 then (qkj.j0 k true a0_0 a0_1 a0_2 l0_3 l0_4) else ((qkk.f k a0_1).bind fun t102 => (qkj.j0 k (!t102) a0_0 a0_1 a0_2 l0_3 l0_4))))) = some r := h
 clear h
 have HC2 := qq.mk H
 clear H
 go_enter Try.func18,Try.ntmps18
 go_upto_region 1 with (first | ((with_reducible refine gate_dst (N := 1) rfl ?_);(try (refine gate_guard (by rfl) ?_;dsimp only));refine box_event ?hg (N := 1) ?hd (cs := #[.int .i64 a0_0,.string a0_1,.string a0_2,.slice A0_3 l0_3.length c0_3,.slice A0_4 l0_4.length c0_4]) (t := 27) ?hr ?_;(case hd => rfl);(case hg => rfl);(case hr => first | (go_simp;done) | (go_simp;rfl));intro gb101 hg w3 hbox hb;have n0_ := qq.mk (zv (by repeat (first | (with_reducible first | exact HB.out | apply qj | apply qz | apply qk) | exact HB.out)) hb);have n1_ := qq.mk (hbox);have n2_ := qq.mk ((by rw [hg];exact (zw (by repeat (first | (with_reducible first | exact HB.out | apply qj | apply qz | apply qk) | exact HB.out))) : w.heap.size ≤ gb101));have n3_ := qq.mk ((by rw [hg];exact (zw (by repeat (first | (with_reducible first | exact HB.out | apply qj | apply qz | apply qk) | exact HB.out))) : w.heap.size ≤ gb101));clear HB;have HB := n0_;have BK101 := n1_;have GW101 := n2_;have GE101 := n3_;clear n0_ n1_ n2_ n3_;clear hb hbox hg))
 (try simp only [Act.put,List.setIfInBounds_toArray,List.set_cons_zero,List.set_cons_succ])
 go_cut [22] (fun v22 wc => ∃ (kq : Nat) (x22_1 : Bool),v22 = .bool x22_1 ∧ qq (qkj.j0 kq x22_1 a0_0 a0_1 a0_2 l0_3 l0_4 = some r) ∧ qq (kq ≤ k) ∧ qq (wc.heap[gb101]? = some (.cells #[.int .i64 a0_0,.string a0_1,.string a0_2,(.slice A0_3 l0_3.length c0_3),(.slice A0_4 l0_4.length c0_4)] 27 (0,0))) ∧ qq (Below w.heap.size w wc))
 case first =>
  have H := HC2.out
  clear HC2
  by_cases c4 : a0_0 < 0
  ·rw [if_pos c4] at H
   have c4b0 : decide (a0_0 < 0) = true := decide_eq_true c4
   clear c4
   (first | rw [c4b0] | (simp only [i64_w,i32_w];rw [c4b0]) | skip)
   have H' := qq.mk H
   clear H
   have hcz5_0 : w3.cell? ⟨gb101,0,none⟩ = some (.int .i64 a0_0) := (qw BK101.out 0).trans rfl
   have hcz5_1 : w3.cell? ⟨gb101,1,none⟩ = some (.string a0_1) := (qw BK101.out 1).trans rfl
   have hcz5_2 : w3.cell? ⟨gb101,2,none⟩ = some (.string a0_2) := (qw BK101.out 2).trans rfl
   have hcz5_3 : w3.cell? ⟨gb101,3,none⟩ = some (.slice A0_3 l0_3.length c0_3) := (qw BK101.out 3).trans rfl
   have hcz5_4 : w3.cell? ⟨gb101,4,none⟩ = some (.slice A0_4 l0_4.length c0_4) := (qw BK101.out 4).trans rfl
   have hfz5_0 := qv BK101.out 0
   have hfz5_1 := qv BK101.out 1
   have hfz5_2 := qv BK101.out 2
   have hfz5_3 := qv BK101.out 3
   have hfz5_4 := qv BK101.out 4
   go_wp2
   go_meet
   case rel => exact ⟨_,(true),(by first | rfl | (simp;done) | (simp [*];done) | (generalize ByteArray.toList _ = l_;cases l_ <;> first | rfl | (simp;done))),H',⟨by first | omega | exact Nat.le_refl _⟩,⟨by (with_reducible repeat (first | refine zz ?_ _ | refine zj ?_ | refine zq ?_ _));exact BK101.out⟩,⟨by repeat (first | (with_reducible first | exact HB.out | apply qj | apply qz | apply qk | refine qx ?_ GE101.out) | exact HB.out)⟩⟩
  ·rw [if_neg c4] at H
   have c4b0 : decide (a0_0 < 0) = false := decide_eq_false c4
   clear c4
   (first | rw [c4b0] | (simp only [i64_w,i32_w];rw [c4b0]) | skip)
   by_cases c6 : a0_0 > 100000000000
   ·rw [if_pos c6] at H
    have c6b0 : decide (100000000000 < a0_0) = true := decide_eq_true c6
    clear c6
    have H' := qq.mk H
    clear H
    have hcz7_0 : w3.cell? ⟨gb101,0,none⟩ = some (.int .i64 a0_0) := (qw BK101.out 0).trans rfl
    have hcz7_1 : w3.cell? ⟨gb101,1,none⟩ = some (.string a0_1) := (qw BK101.out 1).trans rfl
    have hcz7_2 : w3.cell? ⟨gb101,2,none⟩ = some (.string a0_2) := (qw BK101.out 2).trans rfl
    have hcz7_3 : w3.cell? ⟨gb101,3,none⟩ = some (.slice A0_3 l0_3.length c0_3) := (qw BK101.out 3).trans rfl
    have hcz7_4 : w3.cell? ⟨gb101,4,none⟩ = some (.slice A0_4 l0_4.length c0_4) := (qw BK101.out 4).trans rfl
    have hfz7_0 := qv BK101.out 0
    have hfz7_1 := qv BK101.out 1
    have hfz7_2 := qv BK101.out 2
    have hfz7_3 := qv BK101.out 3
    have hfz7_4 := qv BK101.out 4
    go_wp2
    go_meet
    case rel => exact ⟨_,(true),(by first | rfl | (simp;done) | (simp [*];done) | (generalize ByteArray.toList _ = l_;cases l_ <;> first | rfl | (simp;done))),H',⟨by first | omega | exact Nat.le_refl _⟩,⟨by (with_reducible repeat (first | refine zz ?_ _ | refine zj ?_ | refine zq ?_ _));exact BK101.out⟩,⟨by repeat (first | (with_reducible first | exact HB.out | apply qj | apply qz | apply qk | refine qx ?_ GE101.out) | exact HB.out)⟩⟩
   ·rw [if_neg c6] at H
    have c6b0 : decide (100000000000 < a0_0) = false := decide_eq_false c6
    clear c6
    by_cases c8 : (a0_1.size : Int) > 60
    ·rw [if_pos c8] at H
     have c8b0 : decide (60 < (a0_1.size : Int)) = true := decide_eq_true c8
     have c8b1 : decide (60 < a0_1.size) = true := decide_eq_true (by omega)
     clear c8
     have H' := qq.mk H
     clear H
     have hcz9_0 : w3.cell? ⟨gb101,0,none⟩ = some (.int .i64 a0_0) := (qw BK101.out 0).trans rfl
     have hcz9_1 : w3.cell? ⟨gb101,1,none⟩ = some (.string a0_1) := (qw BK101.out 1).trans rfl
     have hcz9_2 : w3.cell? ⟨gb101,2,none⟩ = some (.string a0_2) := (qw BK101.out 2).trans rfl
     have hcz9_3 : w3.cell? ⟨gb101,3,none⟩ = some (.slice A0_3 l0_3.length c0_3) := (qw BK101.out 3).trans rfl
     have hcz9_4 : w3.cell? ⟨gb101,4,none⟩ = some (.slice A0_4 l0_4.length c0_4) := (qw BK101.out 4).trans rfl
     have hfz9_0 := qv BK101.out 0
     have hfz9_1 := qv BK101.out 1
     have hfz9_2 := qv BK101.out 2
     have hfz9_3 := qv BK101.out 3
     have hfz9_4 := qv BK101.out 4
     go_wp2
     go_meet
     case rel => exact ⟨_,(true),(by first | rfl | (simp;done) | (simp [*];done) | (generalize ByteArray.toList _ = l_;cases l_ <;> first | rfl | (simp;done))),H',⟨by first | omega | exact Nat.le_refl _⟩,⟨by (with_reducible repeat (first | refine zz ?_ _ | refine zj ?_ | refine zq ?_ _));exact BK101.out⟩,⟨by repeat (first | (with_reducible first | exact HB.out | apply qj | apply qz | apply qk | refine qx ?_ GE101.out) | exact HB.out)⟩⟩
    ·rw [if_neg c8] at H
     have c8b0 : decide (60 < (a0_1.size : Int)) = false := decide_eq_false c8
     have c8b1 : decide (60 < a0_1.size) = false := decide_eq_false (by omega)
     clear c8
     replace H := Option.bind_eq_some_iff.mp H
     obtain ⟨t102,A100,H⟩ := H
     replace H : (qkj.j0 k (!t102) a0_0 a0_1 a0_2 l0_3 l0_4) = some r := H
     have A10 := qq.mk A100
     clear A100
     have H' := qq.mk H
     clear H
     have hcz11_0 : w3.cell? ⟨gb101,0,none⟩ = some (.int .i64 a0_0) := (qw BK101.out 0).trans rfl
     have hcz11_1 : w3.cell? ⟨gb101,1,none⟩ = some (.string a0_1) := (qw BK101.out 1).trans rfl
     have hcz11_2 : w3.cell? ⟨gb101,2,none⟩ = some (.string a0_2) := (qw BK101.out 2).trans rfl
     have hcz11_3 : w3.cell? ⟨gb101,3,none⟩ = some (.slice A0_3 l0_3.length c0_3) := (qw BK101.out 3).trans rfl
     have hcz11_4 : w3.cell? ⟨gb101,4,none⟩ = some (.slice A0_4 l0_4.length c0_4) := (qw BK101.out 4).trans rfl
     have hfz11_0 := qv BK101.out 0
     have hfz11_1 := qv BK101.out 1
     have hfz11_2 := qv BK101.out 2
     have hfz11_3 := qv BK101.out 3
     have hfz11_4 := qv BK101.out 4
     go_wp2_with (first | (go_at_call 70;(with_reducible refine (qkk.calls k a0_1 t102 _ A10.out).mono ?_);rintro e w' ⟨rfl,⟨nd,rfl⟩⟩))
     go_meet
     case rel => exact ⟨_,(!t102),(by first | rfl | (simp;done) | (simp [*];done) | (generalize ByteArray.toList _ = l_;cases l_ <;> first | rfl | (simp;done))),H',⟨by first | omega | exact Nat.le_refl _⟩,⟨by (with_reducible repeat (first | refine zz ?_ _ | refine zj ?_ | refine zq ?_ _));exact BK101.out⟩,⟨by repeat (first | (with_reducible first | exact HB.out | apply qj | apply qz | apply qk | refine qx ?_ GE101.out) | exact HB.out)⟩⟩
 case rest =>
  clear HC2
  try clear c1
  try clear p2
  try clear c4
  try clear c4b0
  try clear c6
  try clear c6b0
  try clear c8
  try clear c8b0
  try clear c8b1
  try clear hcz11_0
  try clear hcz11_1
  try clear hcz11_2
  try clear hcz11_3
  try clear hcz11_4
  try clear hcz5_0
  try clear hcz5_1
  try clear hcz5_2
  try clear hcz5_3
  try clear hcz5_4
  try clear hcz7_0
  try clear hcz7_1
  try clear hcz7_2
  try clear hcz7_3
  try clear hcz7_4
  try clear hcz9_0
  try clear hcz9_1
  try clear hcz9_2
  try clear hcz9_3
  try clear hcz9_4
  try clear hfz11_0
  try clear hfz11_1
  try clear hfz11_2
  try clear hfz11_3
  try clear hfz11_4
  try clear hfz5_0
  try clear hfz5_1
  try clear hfz5_2
  try clear hfz5_3
  try clear hfz5_4
  try clear hfz7_0
  try clear hfz7_1
  try clear hfz7_2
  try clear hfz7_3
  try clear hfz7_4
  try clear hfz9_0
  try clear hfz9_1
  try clear hfz9_2
  try clear hfz9_3
  try clear hfz9_4
  obtain ⟨kq,x22_1,rfl,HA,HJ1,BK101,HB⟩ := hcut
  cases kq with
  | zero => exact absurd HA.out (by simp [qkj.j0])
  | succ kj1 =>
   have H := HA.out
   clear HA
   simp only [qkj.j0] at H
   by_cases c12 : x22_1 = true
   ·subst c12
    have H1 : (some false) = some r := by rw [if_pos rfl] at H;exact H
    clear H
    have H := H1
    clear H1
    obtain rfl := Option.some.inj H
    go_wp2
    go_ret
    exact ⟨by first | rfl | (simp [*,jk,jj] <;> rfl),by repeat (first | (with_reducible first | exact HB.out | apply qj | apply qz | apply qk | refine qx ?_ GE101.out) | exact HB.out)⟩
   ·replace c12 := Bool.eq_false_iff.mpr c12
    subst c12
    have H1 : ((qvv.f a0_0 a0_1 a0_2 l0_3 l0_4).bind fun t103 => (if t103 = true then (if (a0_2.size : Int) ≤ 200 then ((qkk.f kj1 a0_2).bind fun t104 => (if t104 = true then (some (decide ((l0_3.length : Int) ≤ 20))) else (some false))) else (some false)) else (if (l0_4.length : Int) = 16 then (if a0_2.toList = ([] : List UInt8) then (some ((l0_3.length : Int) == 0)) else (some false)) else (some false)))) = some r := by rw [if_neg (show ¬ (false = true) by decide)] at H;exact H
    clear H
    have H := H1
    clear H1
    replace H := Option.bind_eq_some_iff.mp H
    obtain ⟨t103,A130,H⟩ := H
    replace H : (if t103 = true then (if (a0_2.size : Int) ≤ 200 then ((qkk.f kj1 a0_2).bind fun t104 => (if t104 = true then (some (decide ((l0_3.length : Int) ≤ 20))) else (some false))) else (some false)) else (if (l0_4.length : Int) = 16 then (if a0_2.toList = ([] : List UInt8) then (some ((l0_3.length : Int) == 0)) else (some false)) else (some false))) = some r := H
    have A13 := qq.mk A130
    clear A130
    by_cases c14 : t103 = true
    ·subst c14
     have H1 : (if (a0_2.size : Int) ≤ 200 then ((qkk.f kj1 a0_2).bind fun t104 => (if t104 = true then (some (decide ((l0_3.length : Int) ≤ 20))) else (some false))) else (some false)) = some r := by rw [if_pos rfl] at H;exact H
     clear H
     have H := H1
     clear H1
     by_cases c15 : (a0_2.size : Int) ≤ 200
     ·rw [if_pos c15] at H
      have c15b0 : decide ((a0_2.size : Int) ≤ 200) = true := decide_eq_true c15
      have c15b1 : decide (a0_2.size ≤ 200) = true := decide_eq_true (by omega)
      clear c15
      replace H := Option.bind_eq_some_iff.mp H
      obtain ⟨t104,A160,H⟩ := H
      replace H : (if t104 = true then (some (decide ((l0_3.length : Int) ≤ 20))) else (some false)) = some r := H
      have A16 := qq.mk A160
      clear A160
      by_cases c17 : t104 = true
      ·subst c17
       have H1 : (some (decide ((l0_3.length : Int) ≤ 20))) = some r := by rw [if_pos rfl] at H;exact H
       clear H
       have H := H1
       clear H1
       obtain rfl := Option.some.inj H
       have hcz18_0 : wc.cell? ⟨gb101,0,none⟩ = some (.int .i64 a0_0) := (qw BK101.out 0).trans rfl
       have hcz18_1 : wc.cell? ⟨gb101,1,none⟩ = some (.string a0_1) := (qw BK101.out 1).trans rfl
       have hcz18_2 : wc.cell? ⟨gb101,2,none⟩ = some (.string a0_2) := (qw BK101.out 2).trans rfl
       have hcz18_3 : wc.cell? ⟨gb101,3,none⟩ = some (.slice A0_3 l0_3.length c0_3) := (qw BK101.out 3).trans rfl
       have hcz18_4 : wc.cell? ⟨gb101,4,none⟩ = some (.slice A0_4 l0_4.length c0_4) := (qw BK101.out 4).trans rfl
       have hfz18_0 := qv BK101.out 0
       have hfz18_1 := qv BK101.out 1
       have hfz18_2 := qv BK101.out 2
       have hfz18_3 := qv BK101.out 3
       have hfz18_4 := qv BK101.out 4
       go_wp2_with (first | ((with_reducible refine jv (f := 71) rfl ?_);refine goesL_ (some 24) rfl rfl Try.func71 (by kernel_rfl) rfl #[.agg #[.int .i64 a0_0,.string a0_1,.string a0_2,.slice A0_3 l0_3.length c0_3,.slice A0_4 l0_4.length c0_4]] rfl (by (try simp only [List.map_toArray,List.map_cons,List.map_nil]);first | done | rfl | (simp only [List.length_drop,List.length_take];rfl)) ?_;(with_reducible refine (qvv.calls a0_0 a0_1 a0_2 _ _ l0_3 _ _ l0_4 true _ ?side1 ?side2 ?side3 ?side4 A13.out).mono ?_);(case side1 => repeat (first | exact (Kd.C_below HR0_3.out HB.out) | (with_reducible refine Kd.C_alloc ?_ _) | (with_reducible refine Kd.C_drewN ?_ _) | (with_reducible refine Kd.C_drew ?_)));(case side2 => exact HC0_3.out);(case side3 => repeat (first | exact (Kd.C_below HR0_4.out HB.out) | (with_reducible refine Kd.C_alloc ?_ _) | (with_reducible refine Kd.C_drewN ?_ _) | (with_reducible refine Kd.C_drew ?_)));(case side4 => exact HC0_4.out);rintro e w19 ⟨rfl,hb⟩;refine ⟨_,rfl,?_⟩;have n0_ := qq.mk (vw (g := gb101) (o := .cells #[.int .i64 a0_0,.string a0_1,.string a0_2,.slice A0_3 l0_3.length c0_3,.slice A0_4 l0_4.length c0_4] 27 (0,0)) (by (with_reducible repeat (first | refine zz ?_ _ | refine zj ?_ | refine zq ?_ _));exact BK101.out) hb);have n1_ := qq.mk (zv (by repeat (first | (with_reducible first | exact HB.out | apply qj | apply qz | apply qk | refine qx ?_ GE101.out) | exact HB.out)) hb);clear BK101;clear HB;have BK101 := n0_;have HB := n1_;clear n0_ n1_;(try clear hb);(try clear hb2);(try clear hk);(try clear hi);have hcz20_0 : w19.cell? ⟨gb101,0,none⟩ = some (.int .i64 a0_0) := (qw BK101.out 0).trans rfl;have hcz20_1 : w19.cell? ⟨gb101,1,none⟩ = some (.string a0_1) := (qw BK101.out 1).trans rfl;have hcz20_2 : w19.cell? ⟨gb101,2,none⟩ = some (.string a0_2) := (qw BK101.out 2).trans rfl;have hcz20_3 : w19.cell? ⟨gb101,3,none⟩ = some (.slice A0_3 l0_3.length c0_3) := (qw BK101.out 3).trans rfl;have hcz20_4 : w19.cell? ⟨gb101,4,none⟩ = some (.slice A0_4 l0_4.length c0_4) := (qw BK101.out 4).trans rfl;have hfz20_0 := qv BK101.out 0;have hfz20_1 := qv BK101.out 1;have hfz20_2 := qv BK101.out 2;have hfz20_3 := qv BK101.out 3;have hfz20_4 := qv BK101.out 4) | (go_at_call 70;(with_reducible refine (qkk.calls kj1 a0_2 true _ A16.out).mono ?_);rintro e w' ⟨rfl,⟨nd,rfl⟩⟩))
       go_ret
       exact ⟨by first | rfl | (simp [*,jk,jj] <;> rfl),by repeat (first | (with_reducible first | exact HB.out | apply qj | apply qz | apply qk | refine qx ?_ GE101.out) | exact HB.out)⟩
      ·replace c17 := Bool.eq_false_iff.mpr c17
       subst c17
       have H1 : (some false) = some r := by rw [if_neg (show ¬ (false = true) by decide)] at H;exact H
       clear H
       have H := H1
       clear H1
       obtain rfl := Option.some.inj H
       have hcz21_0 : wc.cell? ⟨gb101,0,none⟩ = some (.int .i64 a0_0) := (qw BK101.out 0).trans rfl
       have hcz21_1 : wc.cell? ⟨gb101,1,none⟩ = some (.string a0_1) := (qw BK101.out 1).trans rfl
       have hcz21_2 : wc.cell? ⟨gb101,2,none⟩ = some (.string a0_2) := (qw BK101.out 2).trans rfl
       have hcz21_3 : wc.cell? ⟨gb101,3,none⟩ = some (.slice A0_3 l0_3.length c0_3) := (qw BK101.out 3).trans rfl
       have hcz21_4 : wc.cell? ⟨gb101,4,none⟩ = some (.slice A0_4 l0_4.length c0_4) := (qw BK101.out 4).trans rfl
       have hfz21_0 := qv BK101.out 0
       have hfz21_1 := qv BK101.out 1
       have hfz21_2 := qv BK101.out 2
       have hfz21_3 := qv BK101.out 3
       have hfz21_4 := qv BK101.out 4
       go_wp2_with (first | ((with_reducible refine jv (f := 71) rfl ?_);refine goesL_ (some 24) rfl rfl Try.func71 (by kernel_rfl) rfl #[.agg #[.int .i64 a0_0,.string a0_1,.string a0_2,.slice A0_3 l0_3.length c0_3,.slice A0_4 l0_4.length c0_4]] rfl (by (try simp only [List.map_toArray,List.map_cons,List.map_nil]);first | done | rfl | (simp only [List.length_drop,List.length_take];rfl)) ?_;(with_reducible refine (qvv.calls a0_0 a0_1 a0_2 _ _ l0_3 _ _ l0_4 true _ ?side1 ?side2 ?side3 ?side4 A13.out).mono ?_);(case side1 => repeat (first | exact (Kd.C_below HR0_3.out HB.out) | (with_reducible refine Kd.C_alloc ?_ _) | (with_reducible refine Kd.C_drewN ?_ _) | (with_reducible refine Kd.C_drew ?_)));(case side2 => exact HC0_3.out);(case side3 => repeat (first | exact (Kd.C_below HR0_4.out HB.out) | (with_reducible refine Kd.C_alloc ?_ _) | (with_reducible refine Kd.C_drewN ?_ _) | (with_reducible refine Kd.C_drew ?_)));(case side4 => exact HC0_4.out);rintro e w22 ⟨rfl,hb⟩;refine ⟨_,rfl,?_⟩;have n0_ := qq.mk (vw (g := gb101) (o := .cells #[.int .i64 a0_0,.string a0_1,.string a0_2,.slice A0_3 l0_3.length c0_3,.slice A0_4 l0_4.length c0_4] 27 (0,0)) (by (with_reducible repeat (first | refine zz ?_ _ | refine zj ?_ | refine zq ?_ _));exact BK101.out) hb);have n1_ := qq.mk (zv (by repeat (first | (with_reducible first | exact HB.out | apply qj | apply qz | apply qk | refine qx ?_ GE101.out) | exact HB.out)) hb);clear BK101;clear HB;have BK101 := n0_;have HB := n1_;clear n0_ n1_;(try clear hb);(try clear hb2);(try clear hk);(try clear hi);have hcz23_0 : w22.cell? ⟨gb101,0,none⟩ = some (.int .i64 a0_0) := (qw BK101.out 0).trans rfl;have hcz23_1 : w22.cell? ⟨gb101,1,none⟩ = some (.string a0_1) := (qw BK101.out 1).trans rfl;have hcz23_2 : w22.cell? ⟨gb101,2,none⟩ = some (.string a0_2) := (qw BK101.out 2).trans rfl;have hcz23_3 : w22.cell? ⟨gb101,3,none⟩ = some (.slice A0_3 l0_3.length c0_3) := (qw BK101.out 3).trans rfl;have hcz23_4 : w22.cell? ⟨gb101,4,none⟩ = some (.slice A0_4 l0_4.length c0_4) := (qw BK101.out 4).trans rfl;have hfz23_0 := qv BK101.out 0;have hfz23_1 := qv BK101.out 1;have hfz23_2 := qv BK101.out 2;have hfz23_3 := qv BK101.out 3;have hfz23_4 := qv BK101.out 4) | (go_at_call 70;(with_reducible refine (qkk.calls kj1 a0_2 false _ A16.out).mono ?_);rintro e w' ⟨rfl,⟨nd,rfl⟩⟩))
       go_ret
       exact ⟨by first | rfl | (simp [*,jk,jj] <;> rfl),by repeat (first | (with_reducible first | exact HB.out | apply qj | apply qz | apply qk | refine qx ?_ GE101.out) | exact HB.out)⟩
     ·rw [if_neg c15] at H
      have c15b0 : decide ((a0_2.size : Int) ≤ 200) = false := decide_eq_false c15
      have c15b1 : decide (a0_2.size ≤ 200) = false := decide_eq_false (by omega)
      clear c15
      obtain rfl := Option.some.inj H
      have hcz24_0 : wc.cell? ⟨gb101,0,none⟩ = some (.int .i64 a0_0) := (qw BK101.out 0).trans rfl
      have hcz24_1 : wc.cell? ⟨gb101,1,none⟩ = some (.string a0_1) := (qw BK101.out 1).trans rfl
      have hcz24_2 : wc.cell? ⟨gb101,2,none⟩ = some (.string a0_2) := (qw BK101.out 2).trans rfl
      have hcz24_3 : wc.cell? ⟨gb101,3,none⟩ = some (.slice A0_3 l0_3.length c0_3) := (qw BK101.out 3).trans rfl
      have hcz24_4 : wc.cell? ⟨gb101,4,none⟩ = some (.slice A0_4 l0_4.length c0_4) := (qw BK101.out 4).trans rfl
      have hfz24_0 := qv BK101.out 0
      have hfz24_1 := qv BK101.out 1
      have hfz24_2 := qv BK101.out 2
      have hfz24_3 := qv BK101.out 3
      have hfz24_4 := qv BK101.out 4
      go_wp2_with (first | ((with_reducible refine jv (f := 71) rfl ?_);refine goesL_ (some 24) rfl rfl Try.func71 (by kernel_rfl) rfl #[.agg #[.int .i64 a0_0,.string a0_1,.string a0_2,.slice A0_3 l0_3.length c0_3,.slice A0_4 l0_4.length c0_4]] rfl (by (try simp only [List.map_toArray,List.map_cons,List.map_nil]);first | done | rfl | (simp only [List.length_drop,List.length_take];rfl)) ?_;(with_reducible refine (qvv.calls a0_0 a0_1 a0_2 _ _ l0_3 _ _ l0_4 true _ ?side1 ?side2 ?side3 ?side4 A13.out).mono ?_);(case side1 => repeat (first | exact (Kd.C_below HR0_3.out HB.out) | (with_reducible refine Kd.C_alloc ?_ _) | (with_reducible refine Kd.C_drewN ?_ _) | (with_reducible refine Kd.C_drew ?_)));(case side2 => exact HC0_3.out);(case side3 => repeat (first | exact (Kd.C_below HR0_4.out HB.out) | (with_reducible refine Kd.C_alloc ?_ _) | (with_reducible refine Kd.C_drewN ?_ _) | (with_reducible refine Kd.C_drew ?_)));(case side4 => exact HC0_4.out);rintro e w25 ⟨rfl,hb⟩;refine ⟨_,rfl,?_⟩;have n0_ := qq.mk (vw (g := gb101) (o := .cells #[.int .i64 a0_0,.string a0_1,.string a0_2,.slice A0_3 l0_3.length c0_3,.slice A0_4 l0_4.length c0_4] 27 (0,0)) (by (with_reducible repeat (first | refine zz ?_ _ | refine zj ?_ | refine zq ?_ _));exact BK101.out) hb);have n1_ := qq.mk (zv (by repeat (first | (with_reducible first | exact HB.out | apply qj | apply qz | apply qk | refine qx ?_ GE101.out) | exact HB.out)) hb);clear BK101;clear HB;have BK101 := n0_;have HB := n1_;clear n0_ n1_;(try clear hb);(try clear hb2);(try clear hk);(try clear hi);have hcz26_0 : w25.cell? ⟨gb101,0,none⟩ = some (.int .i64 a0_0) := (qw BK101.out 0).trans rfl;have hcz26_1 : w25.cell? ⟨gb101,1,none⟩ = some (.string a0_1) := (qw BK101.out 1).trans rfl;have hcz26_2 : w25.cell? ⟨gb101,2,none⟩ = some (.string a0_2) := (qw BK101.out 2).trans rfl;have hcz26_3 : w25.cell? ⟨gb101,3,none⟩ = some (.slice A0_3 l0_3.length c0_3) := (qw BK101.out 3).trans rfl;have hcz26_4 : w25.cell? ⟨gb101,4,none⟩ = some (.slice A0_4 l0_4.length c0_4) := (qw BK101.out 4).trans rfl;have hfz26_0 := qv BK101.out 0;have hfz26_1 := qv BK101.out 1;have hfz26_2 := qv BK101.out 2;have hfz26_3 := qv BK101.out 3;have hfz26_4 := qv BK101.out 4))
      go_ret
      exact ⟨by first | rfl | (simp [*,jk,jj] <;> rfl),by repeat (first | (with_reducible first | exact HB.out | apply qj | apply qz | apply qk | refine qx ?_ GE101.out) | exact HB.out)⟩
    ·replace c14 := Bool.eq_false_iff.mpr c14
     subst c14
     have H1 : (if (l0_4.length : Int) = 16 then (if a0_2.toList = ([] : List UInt8) then (some ((l0_3.length : Int) == 0)) else (some false)) else (some false)) = some r := by rw [if_neg (show ¬ (false = true) by decide)] at H;exact H
     clear H
     have H := H1
     clear H1
     by_cases c27 : (l0_4.length : Int) = 16
     ·rw [if_pos c27] at H
      have c27b0 : ((l0_4.length : Int) == 16) = true := beq_iff_eq.mpr c27
      have c27b1 : ((l0_4.length : Int) != 16) = false := bne_eq_false_iff_eq.mpr c27
      clear c27
      by_cases c28 : a0_2.toList = ([] : List UInt8)
      ·rw [if_pos c28] at H
       have c28b0 : (a0_2.toList == ([] : List UInt8)) = true := beq_iff_eq.mpr c28
       have c28b1 : (a0_2.toList != ([] : List UInt8)) = false := bne_eq_false_iff_eq.mpr c28
       clear c28
       obtain rfl := Option.some.inj H
       have hcz29_0 : wc.cell? ⟨gb101,0,none⟩ = some (.int .i64 a0_0) := (qw BK101.out 0).trans rfl
       have hcz29_1 : wc.cell? ⟨gb101,1,none⟩ = some (.string a0_1) := (qw BK101.out 1).trans rfl
       have hcz29_2 : wc.cell? ⟨gb101,2,none⟩ = some (.string a0_2) := (qw BK101.out 2).trans rfl
       have hcz29_3 : wc.cell? ⟨gb101,3,none⟩ = some (.slice A0_3 l0_3.length c0_3) := (qw BK101.out 3).trans rfl
       have hcz29_4 : wc.cell? ⟨gb101,4,none⟩ = some (.slice A0_4 l0_4.length c0_4) := (qw BK101.out 4).trans rfl
       have hfz29_0 := qv BK101.out 0
       have hfz29_1 := qv BK101.out 1
       have hfz29_2 := qv BK101.out 2
       have hfz29_3 := qv BK101.out 3
       have hfz29_4 := qv BK101.out 4
       go_wp2_with (first | ((with_reducible refine jv (f := 71) rfl ?_);refine goesL_ (some 24) rfl rfl Try.func71 (by kernel_rfl) rfl #[.agg #[.int .i64 a0_0,.string a0_1,.string a0_2,.slice A0_3 l0_3.length c0_3,.slice A0_4 l0_4.length c0_4]] rfl (by (try simp only [List.map_toArray,List.map_cons,List.map_nil]);first | done | rfl | (simp only [List.length_drop,List.length_take];rfl)) ?_;(with_reducible refine (qvv.calls a0_0 a0_1 a0_2 _ _ l0_3 _ _ l0_4 false _ ?side1 ?side2 ?side3 ?side4 A13.out).mono ?_);(case side1 => repeat (first | exact (Kd.C_below HR0_3.out HB.out) | (with_reducible refine Kd.C_alloc ?_ _) | (with_reducible refine Kd.C_drewN ?_ _) | (with_reducible refine Kd.C_drew ?_)));(case side2 => exact HC0_3.out);(case side3 => repeat (first | exact (Kd.C_below HR0_4.out HB.out) | (with_reducible refine Kd.C_alloc ?_ _) | (with_reducible refine Kd.C_drewN ?_ _) | (with_reducible refine Kd.C_drew ?_)));(case side4 => exact HC0_4.out);rintro e w30 ⟨rfl,hb⟩;refine ⟨_,rfl,?_⟩;have n0_ := qq.mk (vw (g := gb101) (o := .cells #[.int .i64 a0_0,.string a0_1,.string a0_2,.slice A0_3 l0_3.length c0_3,.slice A0_4 l0_4.length c0_4] 27 (0,0)) (by (with_reducible repeat (first | refine zz ?_ _ | refine zj ?_ | refine zq ?_ _));exact BK101.out) hb);have n1_ := qq.mk (zv (by repeat (first | (with_reducible first | exact HB.out | apply qj | apply qz | apply qk | refine qx ?_ GE101.out) | exact HB.out)) hb);clear BK101;clear HB;have BK101 := n0_;have HB := n1_;clear n0_ n1_;(try clear hb);(try clear hb2);(try clear hk);(try clear hi);have hcz31_0 : w30.cell? ⟨gb101,0,none⟩ = some (.int .i64 a0_0) := (qw BK101.out 0).trans rfl;have hcz31_1 : w30.cell? ⟨gb101,1,none⟩ = some (.string a0_1) := (qw BK101.out 1).trans rfl;have hcz31_2 : w30.cell? ⟨gb101,2,none⟩ = some (.string a0_2) := (qw BK101.out 2).trans rfl;have hcz31_3 : w30.cell? ⟨gb101,3,none⟩ = some (.slice A0_3 l0_3.length c0_3) := (qw BK101.out 3).trans rfl;have hcz31_4 : w30.cell? ⟨gb101,4,none⟩ = some (.slice A0_4 l0_4.length c0_4) := (qw BK101.out 4).trans rfl;have hfz31_0 := qv BK101.out 0;have hfz31_1 := qv BK101.out 1;have hfz31_2 := qv BK101.out 2;have hfz31_3 := qv BK101.out 3;have hfz31_4 := qv BK101.out 4))
       go_ret
       exact ⟨by first | rfl | (simp [*,jk,jj] <;> rfl),by repeat (first | (with_reducible first | exact HB.out | apply qj | apply qz | apply qk | refine qx ?_ GE101.out) | exact HB.out)⟩
      ·rw [if_neg c28] at H
       have c28b0 : (a0_2.toList == ([] : List UInt8)) = false := beq_eq_false_iff_ne.mpr c28
       have c28b1 : (a0_2.toList != ([] : List UInt8)) = true := bne_iff_ne.mpr c28
       obtain rfl := Option.some.inj H
       have hcz32_0 : wc.cell? ⟨gb101,0,none⟩ = some (.int .i64 a0_0) := (qw BK101.out 0).trans rfl
       have hcz32_1 : wc.cell? ⟨gb101,1,none⟩ = some (.string a0_1) := (qw BK101.out 1).trans rfl
       have hcz32_2 : wc.cell? ⟨gb101,2,none⟩ = some (.string a0_2) := (qw BK101.out 2).trans rfl
       have hcz32_3 : wc.cell? ⟨gb101,3,none⟩ = some (.slice A0_3 l0_3.length c0_3) := (qw BK101.out 3).trans rfl
       have hcz32_4 : wc.cell? ⟨gb101,4,none⟩ = some (.slice A0_4 l0_4.length c0_4) := (qw BK101.out 4).trans rfl
       have hfz32_0 := qv BK101.out 0
       have hfz32_1 := qv BK101.out 1
       have hfz32_2 := qv BK101.out 2
       have hfz32_3 := qv BK101.out 3
       have hfz32_4 := qv BK101.out 4
       go_wp2_with (first | ((with_reducible refine jv (f := 71) rfl ?_);refine goesL_ (some 24) rfl rfl Try.func71 (by kernel_rfl) rfl #[.agg #[.int .i64 a0_0,.string a0_1,.string a0_2,.slice A0_3 l0_3.length c0_3,.slice A0_4 l0_4.length c0_4]] rfl (by (try simp only [List.map_toArray,List.map_cons,List.map_nil]);first | done | rfl | (simp only [List.length_drop,List.length_take];rfl)) ?_;(with_reducible refine (qvv.calls a0_0 a0_1 a0_2 _ _ l0_3 _ _ l0_4 false _ ?side1 ?side2 ?side3 ?side4 A13.out).mono ?_);(case side1 => repeat (first | exact (Kd.C_below HR0_3.out HB.out) | (with_reducible refine Kd.C_alloc ?_ _) | (with_reducible refine Kd.C_drewN ?_ _) | (with_reducible refine Kd.C_drew ?_)));(case side2 => exact HC0_3.out);(case side3 => repeat (first | exact (Kd.C_below HR0_4.out HB.out) | (with_reducible refine Kd.C_alloc ?_ _) | (with_reducible refine Kd.C_drewN ?_ _) | (with_reducible refine Kd.C_drew ?_)));(case side4 => exact HC0_4.out);rintro e w33 ⟨rfl,hb⟩;refine ⟨_,rfl,?_⟩;have n0_ := qq.mk (vw (g := gb101) (o := .cells #[.int .i64 a0_0,.string a0_1,.string a0_2,.slice A0_3 l0_3.length c0_3,.slice A0_4 l0_4.length c0_4] 27 (0,0)) (by (with_reducible repeat (first | refine zz ?_ _ | refine zj ?_ | refine zq ?_ _));exact BK101.out) hb);have n1_ := qq.mk (zv (by repeat (first | (with_reducible first | exact HB.out | apply qj | apply qz | apply qk | refine qx ?_ GE101.out) | exact HB.out)) hb);clear BK101;clear HB;have BK101 := n0_;have HB := n1_;clear n0_ n1_;(try clear hb);(try clear hb2);(try clear hk);(try clear hi);have hcz34_0 : w33.cell? ⟨gb101,0,none⟩ = some (.int .i64 a0_0) := (qw BK101.out 0).trans rfl;have hcz34_1 : w33.cell? ⟨gb101,1,none⟩ = some (.string a0_1) := (qw BK101.out 1).trans rfl;have hcz34_2 : w33.cell? ⟨gb101,2,none⟩ = some (.string a0_2) := (qw BK101.out 2).trans rfl;have hcz34_3 : w33.cell? ⟨gb101,3,none⟩ = some (.slice A0_3 l0_3.length c0_3) := (qw BK101.out 3).trans rfl;have hcz34_4 : w33.cell? ⟨gb101,4,none⟩ = some (.slice A0_4 l0_4.length c0_4) := (qw BK101.out 4).trans rfl;have hfz34_0 := qv BK101.out 0;have hfz34_1 := qv BK101.out 1;have hfz34_2 := qv BK101.out 2;have hfz34_3 := qv BK101.out 3;have hfz34_4 := qv BK101.out 4))
       go_ret
       exact ⟨by first | rfl | (simp [*,jk,jj] <;> rfl),by repeat (first | (with_reducible first | exact HB.out | apply qj | apply qz | apply qk | refine qx ?_ GE101.out) | exact HB.out)⟩
     ·rw [if_neg c27] at H
      have c27b0 : ((l0_4.length : Int) == 16) = false := beq_eq_false_iff_ne.mpr c27
      have c27b1 : ((l0_4.length : Int) != 16) = true := bne_iff_ne.mpr c27
      obtain rfl := Option.some.inj H
      have hcz35_0 : wc.cell? ⟨gb101,0,none⟩ = some (.int .i64 a0_0) := (qw BK101.out 0).trans rfl
      have hcz35_1 : wc.cell? ⟨gb101,1,none⟩ = some (.string a0_1) := (qw BK101.out 1).trans rfl
      have hcz35_2 : wc.cell? ⟨gb101,2,none⟩ = some (.string a0_2) := (qw BK101.out 2).trans rfl
      have hcz35_3 : wc.cell? ⟨gb101,3,none⟩ = some (.slice A0_3 l0_3.length c0_3) := (qw BK101.out 3).trans rfl
      have hcz35_4 : wc.cell? ⟨gb101,4,none⟩ = some (.slice A0_4 l0_4.length c0_4) := (qw BK101.out 4).trans rfl
      have hfz35_0 := qv BK101.out 0
      have hfz35_1 := qv BK101.out 1
      have hfz35_2 := qv BK101.out 2
      have hfz35_3 := qv BK101.out 3
      have hfz35_4 := qv BK101.out 4
      go_wp2_with (first | ((with_reducible refine jv (f := 71) rfl ?_);refine goesL_ (some 24) rfl rfl Try.func71 (by kernel_rfl) rfl #[.agg #[.int .i64 a0_0,.string a0_1,.string a0_2,.slice A0_3 l0_3.length c0_3,.slice A0_4 l0_4.length c0_4]] rfl (by (try simp only [List.map_toArray,List.map_cons,List.map_nil]);first | done | rfl | (simp only [List.length_drop,List.length_take];rfl)) ?_;(with_reducible refine (qvv.calls a0_0 a0_1 a0_2 _ _ l0_3 _ _ l0_4 false _ ?side1 ?side2 ?side3 ?side4 A13.out).mono ?_);(case side1 => repeat (first | exact (Kd.C_below HR0_3.out HB.out) | (with_reducible refine Kd.C_alloc ?_ _) | (with_reducible refine Kd.C_drewN ?_ _) | (with_reducible refine Kd.C_drew ?_)));(case side2 => exact HC0_3.out);(case side3 => repeat (first | exact (Kd.C_below HR0_4.out HB.out) | (with_reducible refine Kd.C_alloc ?_ _) | (with_reducible refine Kd.C_drewN ?_ _) | (with_reducible refine Kd.C_drew ?_)));(case side4 => exact HC0_4.out);rintro e w36 ⟨rfl,hb⟩;refine ⟨_,rfl,?_⟩;have n0_ := qq.mk (vw (g := gb101) (o := .cells #[.int .i64 a0_0,.string a0_1,.string a0_2,.slice A0_3 l0_3.length c0_3,.slice A0_4 l0_4.length c0_4] 27 (0,0)) (by (with_reducible repeat (first | refine zz ?_ _ | refine zj ?_ | refine zq ?_ _));exact BK101.out) hb);have n1_ := qq.mk (zv (by repeat (first | (with_reducible first | exact HB.out | apply qj | apply qz | apply qk | refine qx ?_ GE101.out) | exact HB.out)) hb);clear BK101;clear HB;have BK101 := n0_;have HB := n1_;clear n0_ n1_;(try clear hb);(try clear hb2);(try clear hk);(try clear hi);have hcz37_0 : w36.cell? ⟨gb101,0,none⟩ = some (.int .i64 a0_0) := (qw BK101.out 0).trans rfl;have hcz37_1 : w36.cell? ⟨gb101,1,none⟩ = some (.string a0_1) := (qw BK101.out 1).trans rfl;have hcz37_2 : w36.cell? ⟨gb101,2,none⟩ = some (.string a0_2) := (qw BK101.out 2).trans rfl;have hcz37_3 : w36.cell? ⟨gb101,3,none⟩ = some (.slice A0_3 l0_3.length c0_3) := (qw BK101.out 3).trans rfl;have hcz37_4 : w36.cell? ⟨gb101,4,none⟩ = some (.slice A0_4 l0_4.length c0_4) := (qw BK101.out 4).trans rfl;have hfz37_0 := qv BK101.out 0;have hfz37_1 := qv BK101.out 1;have hfz37_2 := qv BK101.out 2;have hfz37_3 := qv BK101.out 3;have hfz37_4 := qv BK101.out 4))
      go_ret
      exact ⟨by first | rfl | (simp [*,jk,jj] <;> rfl),by repeat (first | (with_reducible first | exact HB.out | apply qj | apply qz | apply qk | refine qx ?_ GE101.out) | exact HB.out)⟩
end Go.Proofs.Ytipdkendfcopiaa.Pr
namespace Go.Proofs.Ytipdkendfcopiaa.Pr
open Go.RowKit Go.Proofs.YtipdkendfcopiaaW.PrintWords Go.Proofs.YtipdkendfcopiaaW.PrintLast Go.Proofs.YtipdkendfcopiaaW.PrintMore
attribute [local go_sem] max2_int min2_int max_two min_two max_three min_three max_four min_four
set_option linter.unusedVariables false
set_option linter.unusedSimpArgs false
def qkx.f (k : Nat) (a0_0 : Int) (a0_1 : ByteArray) (a0_2 : ByteArray) (l0_3 : List Int) (l0_4 : List Int) : Option (List Int) := (qvv.f a0_0 a0_1 a0_2 l0_3 l0_4).bind fun t102 => (if t102 = true then ((bytesOfS.f a0_2).bind fun t103 => ((qwz.f k l0_3 t103).bind fun t106 => (some t106))) else (if ([] : List Int).length + l0_4.length < 140737488355328 then (some (([] : List Int) ++ l0_4)) else (none)))
set_option maxHeartbeats 8000000 in
set_option maxRecDepth 100000 in
theorem qkx.calls (k : Nat) (a0_0 : Int) (a0_1 : ByteArray) (a0_2 : ByteArray) (A0_3 : Option Addr) (c0_3 : Nat) (l0_3 : List Int) (A0_4 : Option Addr) (c0_4 : Nat) (l0_4 : List Int) (r : List Int) (w : World) (hr0_3 : Kd.C (Kd.int .u8) w A0_3 l0_3.length l0_3) (hc0_3 : l0_3.length ≤ c0_3) (hr0_4 : Kd.C (Kd.int .u8) w A0_4 l0_4.length l0_4) (hc0_4 : l0_4.length ≤ c0_4) (h : qkx.f k a0_0 a0_1 a0_2 l0_3 l0_4 = some r) :
  Calls Try.prog 73 #[.agg #[.int .i64 a0_0,.string a0_1,.string a0_2,.slice A0_3 l0_3.length c0_3,.slice A0_4 l0_4.length c0_4]] w fun e w' => ∃ v0_ : Value,e = .returned (v0_) ∧ Kd.R (Kd.int .u8) 5 w' w.heap.size (fun _ => True) v0_ r ∧ Below w.heap.size w w' := by
 have hu27 := Try.underlying27
 have HR0_3 := qq.mk hr0_3
 have HC0_3 := qq.mk hc0_3
 clear hr0_3 hc0_3
 have HR0_4 := qq.mk hr0_4
 have HC0_4 := qq.mk hc0_4
 clear hr0_4 hc0_4
 have HB := qq.mk (Below.refl w.heap.size w)
 have H : ((qvv.f a0_0 a0_1 a0_2 l0_3 l0_4).bind fun t102 => (if t102 = true then ((bytesOfS.f a0_2).bind fun t103 => ((qwz.f k l0_3 t103).bind fun t106 => (some t106))) else (if ([] : List Int).length + l0_4.length < 140737488355328 then (some (([] : List Int) ++ l0_4)) else (none)))) = some r := h
 clear h
 replace H := Option.bind_eq_some_iff.mp H
 obtain ⟨t102,A20,H⟩ := H
 replace H : (if t102 = true then ((bytesOfS.f a0_2).bind fun t103 => ((qwz.f k l0_3 t103).bind fun t106 => (some t106))) else (if ([] : List Int).length + l0_4.length < 140737488355328 then (some (([] : List Int) ++ l0_4)) else (none))) = some r := H
 have A2 := qq.mk A20
 clear A20
 by_cases c3 : t102 = true
 ·subst c3
  have H1 : ((bytesOfS.f a0_2).bind fun t103 => ((qwz.f k l0_3 t103).bind fun t106 => (some t106))) = some r := by rw [if_pos rfl] at H;exact H
  clear H
  have H := H1
  clear H1
  replace H := Option.bind_eq_some_iff.mp H
  obtain ⟨t103,A40,H⟩ := H
  replace H : ((qwz.f k l0_3 t103).bind fun t106 => (some t106)) = some r := H
  have A4 := qq.mk A40
  clear A40
  replace H := Option.bind_eq_some_iff.mp H
  obtain ⟨t106,A50,H⟩ := H
  replace H : (some t106) = some r := H
  have A5 := qq.mk A50
  clear A50
  obtain rfl := Option.some.inj H
  go_enter Try.func73,Try.ntmps73
  go_wp2_with (first | ((with_reducible refine gate_dst (N := 1) rfl ?_);refine box_event ?hg (N := 1) ?hd (cs := #[.int .i64 a0_0,.string a0_1,.string a0_2,.slice A0_3 l0_3.length c0_3,.slice A0_4 l0_4.length c0_4]) (t := 27) ?hr ?_;(case hd => rfl);(case hg => rfl);(case hr => first | (go_simp;done) | (go_simp;rfl));intro gb101 hg w6 hbox hb;have n0_ := qq.mk (zv (by repeat (first | (with_reducible first | exact HB.out | apply qj | apply qz | apply qk) | exact HB.out)) hb);have n1_ := qq.mk (hbox);have n2_ := qq.mk ((by rw [hg];exact (zw (by repeat (first | (with_reducible first | exact HB.out | apply qj | apply qz | apply qk) | exact HB.out))) : w.heap.size ≤ gb101));have n3_ := qq.mk ((by rw [hg];exact (zw (by repeat (first | (with_reducible first | exact HB.out | apply qj | apply qz | apply qk) | exact HB.out))) : w.heap.size ≤ gb101));clear HB;have HB := n0_;have BK101 := n1_;have GW101 := n2_;have GE101 := n3_;clear n0_ n1_ n2_ n3_;clear hb hbox hg;have hcz7_0 : w6.cell? ⟨gb101,0,none⟩ = some (.int .i64 a0_0) := (qw BK101.out 0).trans rfl;have hcz7_1 : w6.cell? ⟨gb101,1,none⟩ = some (.string a0_1) := (qw BK101.out 1).trans rfl;have hcz7_2 : w6.cell? ⟨gb101,2,none⟩ = some (.string a0_2) := (qw BK101.out 2).trans rfl;have hcz7_3 : w6.cell? ⟨gb101,3,none⟩ = some (.slice A0_3 l0_3.length c0_3) := (qw BK101.out 3).trans rfl;have hcz7_4 : w6.cell? ⟨gb101,4,none⟩ = some (.slice A0_4 l0_4.length c0_4) := (qw BK101.out 4).trans rfl;have hfz7_0 := qv BK101.out 0;have hfz7_1 := qv BK101.out 1;have hfz7_2 := qv BK101.out 2;have hfz7_3 := qv BK101.out 3;have hfz7_4 := qv BK101.out 4) | ((with_reducible refine jv (f := 71) rfl ?_);refine goesL_ (some 5) rfl rfl Try.func71 (by kernel_rfl) rfl #[.agg #[.int .i64 a0_0,.string a0_1,.string a0_2,.slice A0_3 l0_3.length c0_3,.slice A0_4 l0_4.length c0_4]] rfl (by (try simp only [List.map_toArray,List.map_cons,List.map_nil]);first | done | rfl | (simp only [List.length_drop,List.length_take];rfl)) ?_;(with_reducible refine (qvv.calls a0_0 a0_1 a0_2 _ _ l0_3 _ _ l0_4 true _ ?side1 ?side2 ?side3 ?side4 A2.out).mono ?_);(case side1 => repeat (first | exact (Kd.C_below HR0_3.out HB.out) | (with_reducible refine Kd.C_alloc ?_ _) | (with_reducible refine Kd.C_drewN ?_ _) | (with_reducible refine Kd.C_drew ?_)));(case side2 => exact HC0_3.out);(case side3 => repeat (first | exact (Kd.C_below HR0_4.out HB.out) | (with_reducible refine Kd.C_alloc ?_ _) | (with_reducible refine Kd.C_drewN ?_ _) | (with_reducible refine Kd.C_drew ?_)));(case side4 => exact HC0_4.out);rintro e w8 ⟨rfl,hb⟩;refine ⟨_,rfl,?_⟩;have n0_ := qq.mk (vw (g := gb101) (o := .cells #[.int .i64 a0_0,.string a0_1,.string a0_2,.slice A0_3 l0_3.length c0_3,.slice A0_4 l0_4.length c0_4] 27 (0,0)) (by (with_reducible repeat (first | refine zz ?_ _ | refine zj ?_ | refine zq ?_ _));exact BK101.out) hb);have n1_ := qq.mk (zv (by repeat (first | (with_reducible first | exact HB.out | apply qj | apply qz | apply qk | refine qx ?_ GE101.out) | exact HB.out)) hb);clear BK101;clear HB;have BK101 := n0_;have HB := n1_;clear n0_ n1_;(try clear hb);(try clear hb2);(try clear hk);(try clear hi);have hcz9_0 : w8.cell? ⟨gb101,0,none⟩ = some (.int .i64 a0_0) := (qw BK101.out 0).trans rfl;have hcz9_1 : w8.cell? ⟨gb101,1,none⟩ = some (.string a0_1) := (qw BK101.out 1).trans rfl;have hcz9_2 : w8.cell? ⟨gb101,2,none⟩ = some (.string a0_2) := (qw BK101.out 2).trans rfl;have hcz9_3 : w8.cell? ⟨gb101,3,none⟩ = some (.slice A0_3 l0_3.length c0_3) := (qw BK101.out 3).trans rfl;have hcz9_4 : w8.cell? ⟨gb101,4,none⟩ = some (.slice A0_4 l0_4.length c0_4) := (qw BK101.out 4).trans rfl;have hfz9_0 := qv BK101.out 0;have hfz9_1 := qv BK101.out 1;have hfz9_2 := qv BK101.out 2;have hfz9_3 := qv BK101.out 3;have hfz9_4 := qv BK101.out 4) | ((with_reducible refine gate_convert (src := 9) (dst := 22) rfl ?_);refine bytesGoesL_ (some 10) rfl rfl (s := a0_2) rfl rfl ?_;(with_reducible refine (bytesOfS.calls a0_2 t103 _ A4.out).mono ?_);rintro e w10 ⟨v104,rfl,ho0,hb⟩;refine ⟨_,rfl,?_⟩;have n0_ := qq.mk (Kd.V_lower (Kd.V_mono (ok' := fun k_ => k_ ≠ gb101) ho0 (fun k_ hk_ => (Kd.freshB (g := gb101) (o := .cells #[.int .i64 a0_0,.string a0_1,.string a0_2,.slice A0_3 l0_3.length c0_3,.slice A0_4 l0_4.length c0_4] 27 (0,0)) (by (with_reducible repeat (first | refine zz ?_ _ | refine zj ?_ | refine zq ?_ _));exact BK101.out) k_ hk_))) (zw (by repeat (first | (with_reducible first | exact HB.out | apply qj | apply qz | apply qk | refine qx ?_ GE101.out) | exact HB.out))));have n1_ := qq.mk (vw (g := gb101) (o := .cells #[.int .i64 a0_0,.string a0_1,.string a0_2,.slice A0_3 l0_3.length c0_3,.slice A0_4 l0_4.length c0_4] 27 (0,0)) (by (with_reducible repeat (first | refine zz ?_ _ | refine zj ?_ | refine zq ?_ _));exact BK101.out) hb);have n2_ := qq.mk (zv (by repeat (first | (with_reducible first | exact HB.out | apply qj | apply qz | apply qk | refine qx ?_ GE101.out) | exact HB.out)) hb);clear BK101;clear HB;have HO105 := n0_;have BK101 := n1_;have HB := n2_;clear n0_ n1_ n2_;(try clear hb);(try clear hb2);(try clear hk);(try clear hi);(try clear ho0);obtain ⟨Ao11,co11,eo11⟩ := Kd.V_slice HO105.out;subst eo11) | ((with_reducible refine jv (f := 114) rfl ?_);refine goesL_ (some 11) rfl rfl Try.func114 (by kernel_rfl) rfl #[.slice A0_3 l0_3.length c0_3,.slice Ao11 t103.length co11] rfl (by (try simp only [List.map_toArray,List.map_cons,List.map_nil]);first | done | rfl | (simp only [List.length_drop,List.length_take];rfl)) ?_;(with_reducible refine (qwz.calls k _ _ l0_3 _ _ t103 t106 _ ?side1 ?side2 ?side3 ?side4 A5.out).mono ?_);(case side1 => repeat (first | exact (Kd.C_below HR0_3.out HB.out) | (with_reducible refine Kd.C_alloc ?_ _) | (with_reducible refine Kd.C_drewN ?_ _) | (with_reducible refine Kd.C_drew ?_)));(case side2 => exact HC0_3.out);(case side3 => repeat (first | exact (Kd.V_reads' HO105.out).2.2 | (with_reducible refine Kd.C_alloc ?_ _) | (with_reducible refine Kd.C_drewN ?_ _) | (with_reducible refine Kd.C_drew ?_)));(case side4 => exact (Kd.V_reads' HO105.out).2.1);rintro e w12 ⟨v107,rfl,ho0,hb⟩;refine ⟨_,rfl,?_⟩;have n0_ := qq.mk (Kd.V_elder' (by (with_reducible repeat (first | apply Kd.vk | apply Kd.vz | apply Kd.vv));exact HO105.out) (Kd.R_base ho0) hb);have n1_ := qq.mk (Kd.R_lower ho0 (zw (by repeat (first | (with_reducible first | exact HB.out | apply qj | apply qz | apply qk | refine qx ?_ GE101.out) | exact HB.out))));have n2_ := qq.mk (vw (g := gb101) (o := .cells #[.int .i64 a0_0,.string a0_1,.string a0_2,.slice A0_3 l0_3.length c0_3,.slice A0_4 l0_4.length c0_4] 27 (0,0)) (by (with_reducible repeat (first | refine zz ?_ _ | refine zj ?_ | refine zq ?_ _));exact BK101.out) hb);have n3_ := qq.mk (zv (by repeat (first | (with_reducible first | exact HB.out | apply qj | apply qz | apply qk | refine qx ?_ GE101.out) | exact HB.out)) hb);clear HO105;clear BK101;clear HB;have HO105 := n0_;have HO108 := n1_;have BK101 := n2_;have HB := n3_;clear n0_ n1_ n2_ n3_;(try clear hb);(try clear hb2);(try clear hk);(try clear hi);(try clear ho0)))
  go_ret
  exact ⟨_,by first | rfl | (simp [*,jk,jj] <;> rfl),by (with_reducible repeat (first | apply Kd.jq | apply Kd.zx | apply Kd.jz));exact HO108.out,by repeat (first | (with_reducible first | exact HB.out | apply qj | apply qz | apply qk | refine qx ?_ GE101.out) | exact HB.out)⟩
 ·replace c3 := Bool.eq_false_iff.mpr c3
  subst c3
  have H1 : (if ([] : List Int).length + l0_4.length < 140737488355328 then (some (([] : List Int) ++ l0_4)) else (none)) = some r := by rw [if_neg (show ¬ (false = true) by decide)] at H;exact H
  clear H
  have H := H1
  clear H1
  by_cases c13 : ([] : List Int).length + l0_4.length < 140737488355328
  ·rw [if_pos c13] at H
   have LMc13 := qq.mk c13
   clear c13
   obtain ⟨y109,hy109⟩ : ∃ y_ : List Int,y_ = (([] : List Int) ++ l0_4) := ⟨_,rfl⟩
   replace H : (some y109) = some r := by first | (rw [hy109];with_reducible exact H) | (have H2_ := (Option.bind_some _ _).symm.trans H;rw [hy109];with_reducible exact H2_) | (have H2_ := (Option.bind_some _ _).symm.trans H;with_reducible exact H2_) | with_reducible exact H | (rw [hy109];exact H) | exact H
   have Ny109 := qq.mk hy109
   clear hy109
   obtain rfl := Option.some.inj H
   go_enter Try.func73,Try.ntmps73
   go_wp2_with (first | ((with_reducible refine gate_dst (N := 1) rfl ?_);refine box_event ?hg (N := 1) ?hd (cs := #[.int .i64 a0_0,.string a0_1,.string a0_2,.slice A0_3 l0_3.length c0_3,.slice A0_4 l0_4.length c0_4]) (t := 27) ?hr ?_;(case hd => rfl);(case hg => rfl);(case hr => first | (go_simp;done) | (go_simp;rfl));intro gb101 hg w14 hbox hb;have n0_ := qq.mk (zv (by repeat (first | (with_reducible first | exact HB.out | apply qj | apply qz | apply qk) | exact HB.out)) hb);have n1_ := qq.mk (hbox);have n2_ := qq.mk ((by rw [hg];exact (zw (by repeat (first | (with_reducible first | exact HB.out | apply qj | apply qz | apply qk) | exact HB.out))) : w.heap.size ≤ gb101));have n3_ := qq.mk ((by rw [hg];exact (zw (by repeat (first | (with_reducible first | exact HB.out | apply qj | apply qz | apply qk) | exact HB.out))) : w.heap.size ≤ gb101));clear HB;have HB := n0_;have BK101 := n1_;have GW101 := n2_;have GE101 := n3_;clear n0_ n1_ n2_ n3_;clear hb hbox hg;have hcz15_0 : w14.cell? ⟨gb101,0,none⟩ = some (.int .i64 a0_0) := (qw BK101.out 0).trans rfl;have hcz15_1 : w14.cell? ⟨gb101,1,none⟩ = some (.string a0_1) := (qw BK101.out 1).trans rfl;have hcz15_2 : w14.cell? ⟨gb101,2,none⟩ = some (.string a0_2) := (qw BK101.out 2).trans rfl;have hcz15_3 : w14.cell? ⟨gb101,3,none⟩ = some (.slice A0_3 l0_3.length c0_3) := (qw BK101.out 3).trans rfl;have hcz15_4 : w14.cell? ⟨gb101,4,none⟩ = some (.slice A0_4 l0_4.length c0_4) := (qw BK101.out 4).trans rfl;have hfz15_0 := qv BK101.out 0;have hfz15_1 := qv BK101.out 1;have hfz15_2 := qv BK101.out 2;have hfz15_3 := qv BK101.out 3;have hfz15_4 := qv BK101.out 4) | ((with_reducible refine jv (f := 71) rfl ?_);refine goesL_ (some 5) rfl rfl Try.func71 (by kernel_rfl) rfl #[.agg #[.int .i64 a0_0,.string a0_1,.string a0_2,.slice A0_3 l0_3.length c0_3,.slice A0_4 l0_4.length c0_4]] rfl (by (try simp only [List.map_toArray,List.map_cons,List.map_nil]);first | done | rfl | (simp only [List.length_drop,List.length_take];rfl)) ?_;(with_reducible refine (qvv.calls a0_0 a0_1 a0_2 _ _ l0_3 _ _ l0_4 false _ ?side1 ?side2 ?side3 ?side4 A2.out).mono ?_);(case side1 => repeat (first | exact (Kd.C_below HR0_3.out HB.out) | (with_reducible refine Kd.C_alloc ?_ _) | (with_reducible refine Kd.C_drewN ?_ _) | (with_reducible refine Kd.C_drew ?_)));(case side2 => exact HC0_3.out);(case side3 => repeat (first | exact (Kd.C_below HR0_4.out HB.out) | (with_reducible refine Kd.C_alloc ?_ _) | (with_reducible refine Kd.C_drewN ?_ _) | (with_reducible refine Kd.C_drew ?_)));(case side4 => exact HC0_4.out);rintro e w16 ⟨rfl,hb⟩;refine ⟨_,rfl,?_⟩;have n0_ := qq.mk (vw (g := gb101) (o := .cells #[.int .i64 a0_0,.string a0_1,.string a0_2,.slice A0_3 l0_3.length c0_3,.slice A0_4 l0_4.length c0_4] 27 (0,0)) (by (with_reducible repeat (first | refine zz ?_ _ | refine zj ?_ | refine zq ?_ _));exact BK101.out) hb);have n1_ := qq.mk (zv (by repeat (first | (with_reducible first | exact HB.out | apply qj | apply qz | apply qk | refine qx ?_ GE101.out) | exact HB.out)) hb);clear BK101;clear HB;have BK101 := n0_;have HB := n1_;clear n0_ n1_;(try clear hb);(try clear hb2);(try clear hk);(try clear hi);have hcz17_0 : w16.cell? ⟨gb101,0,none⟩ = some (.int .i64 a0_0) := (qw BK101.out 0).trans rfl;have hcz17_1 : w16.cell? ⟨gb101,1,none⟩ = some (.string a0_1) := (qw BK101.out 1).trans rfl;have hcz17_2 : w16.cell? ⟨gb101,2,none⟩ = some (.string a0_2) := (qw BK101.out 2).trans rfl;have hcz17_3 : w16.cell? ⟨gb101,3,none⟩ = some (.slice A0_3 l0_3.length c0_3) := (qw BK101.out 3).trans rfl;have hcz17_4 : w16.cell? ⟨gb101,4,none⟩ = some (.slice A0_4 l0_4.length c0_4) := (qw BK101.out 4).trans rfl;have hfz17_0 := qv BK101.out 0;have hfz17_1 := qv BK101.out 1;have hfz17_2 := qv BK101.out 2;have hfz17_3 := qv BK101.out 3;have hfz17_4 := qv BK101.out 4) | ((with_reducible refine gate_builtin (b := .append) (xs := #[.tmp 12,.tmp 14]) rfl ?_);at_builtin;refine Kd.R_append_rows (Kd.int .u8) (w0 := w) w.heap.size rfl (.tmp 12) (.tmp 14) 22 5 (.int .u8 0) 1 rfl Try.underlying22 info5 rfl (by decide) (by omega) (.slice none 0 0) ([] : List Int) l0_4 _ _ _ (fun _ => True) (fun _ => False) rfl rfl ?aO ?aR (fun _ _ h => h) (fun _ h => h.elim) ?aF ?aB ?aS ?aL ?_;(case aR => repeat (first | exact (Kd.C_below HR0_4.out HB.out) | (with_reducible refine Kd.C_alloc ?_ _) | (with_reducible refine Kd.C_drewN ?_ _) | (with_reducible refine Kd.C_drew ?_)));(case aB => exact (by repeat (first | (with_reducible first | exact HB.out | apply qj | apply qz | apply qk | refine qx ?_ GE101.out) | exact HB.out)));(case aF => exact (fun _ _ => trivial));(case aO => exact ((Kd.R_nil _ _ _ _ (fun _ => True))));(case aS => exact (zw (by repeat (first | (with_reducible first | exact HB.out | apply qj | apply qz | apply qk | refine qx ?_ GE101.out) | exact HB.out))));(case aL => have := LMc13.out;omega);intro v110 w18 ho hb hg hat;rw [← Ny109.out] at ho;have n0_ := qq.mk (blk_grown (g := gb101) (o := .cells #[.int .i64 a0_0,.string a0_1,.string a0_2,.slice A0_3 l0_3.length c0_3,.slice A0_4 l0_4.length c0_4] 27 (0,0)) (by (with_reducible repeat (first | refine zz ?_ _ | refine zj ?_ | refine zq ?_ _));exact BK101.out) hg (by simp [Value.ownBlock]));have n1_ := qq.mk (hb);have n2_ := qq.mk (ho);clear BK101;clear HB;have BK101 := n0_;have HB := n1_;have HO111 := n2_;clear n0_ n1_ n2_;clear ho hb hg hat))
   go_ret
   exact ⟨_,by first | rfl | (simp [*,jk,jj] <;> rfl),by (with_reducible repeat (first | apply Kd.jq | apply Kd.zx | apply Kd.jz));exact HO111.out,by repeat (first | (with_reducible first | exact HB.out | apply qj | apply qz | apply qk | refine qx ?_ GE101.out) | exact HB.out)⟩
  ·rw [if_neg c13] at H
   exact absurd H (by simp)
end Go.Proofs.Ytipdkendfcopiaa.Pr
namespace Go.Proofs.Ytipdkendfcopiaa.Pr
open Go.RowKit Go.Proofs.YtipdkendfcopiaaW.PrintWords Go.Proofs.YtipdkendfcopiaaW.PrintLast Go.Proofs.YtipdkendfcopiaaW.PrintMore
attribute [local go_sem] max2_int min2_int max_two min_two max_three min_three max_four min_four
set_option linter.unusedVariables false
set_option linter.unusedSimpArgs false
def qvz.f (k : Nat) (a0_0 : Int) (a0_1 : ByteArray) (a0_2 : ByteArray) (l0_3 : List Int) (l0_4 : List Int) : Option (List Int) := (some (([0] : List Int) : List Int)).bind fun y102 => ((qvx.f k (Int.tmod a0_0 4294967296)).bind fun t105 => (if y102.length + t105.length < 140737488355328 then ((some (y102 ++ t105 : List Int)).bind fun y108 => ((qvx.f k (wrap64 (Int.tdiv a0_0 4294967296))).bind fun t111 => (if y108.length + t111.length < 140737488355328 then ((some (y108 ++ t111 : List Int)).bind fun y114 => ((bytesOfS.f a0_1).bind fun t117 => ((qwq.f k t117).bind fun t120 => (if y114.length + t120.length < 140737488355328 then ((some (y114 ++ t120 : List Int)).bind fun y123 => ((qkx.f k a0_0 a0_1 a0_2 l0_3 l0_4).bind fun t126 => (if y123.length + t126.length < 140737488355328 then ((qwq.f k (y123 ++ t126)).bind fun t132 => (some t132)) else (none)))) else (none))))) else (none)))) else (none)))
set_option maxHeartbeats 8000000 in
set_option maxRecDepth 100000 in
theorem qvz.calls (k : Nat) (a0_0 : Int) (a0_1 : ByteArray) (a0_2 : ByteArray) (A0_3 : Option Addr) (c0_3 : Nat) (l0_3 : List Int) (A0_4 : Option Addr) (c0_4 : Nat) (l0_4 : List Int) (r : List Int) (w : World) (hr0_3 : Kd.C (Kd.int .u8) w A0_3 l0_3.length l0_3) (hc0_3 : l0_3.length ≤ c0_3) (hr0_4 : Kd.C (Kd.int .u8) w A0_4 l0_4.length l0_4) (hc0_4 : l0_4.length ≤ c0_4) (h : qvz.f k a0_0 a0_1 a0_2 l0_3 l0_4 = some r) :
  Calls Try.prog 76 #[.agg #[.int .i64 a0_0,.string a0_1,.string a0_2,.slice A0_3 l0_3.length c0_3,.slice A0_4 l0_4.length c0_4]] w fun e w' => ∃ v0_ : Value,e = .returned (v0_) ∧ Kd.R (Kd.int .u8) 5 w' w.heap.size (fun _ => True) v0_ r ∧ Below w.heap.size w w' := by
 have hu27 := Try.underlying27
 have HR0_3 := qq.mk hr0_3
 have HC0_3 := qq.mk hc0_3
 clear hr0_3 hc0_3
 have HR0_4 := qq.mk hr0_4
 have HC0_4 := qq.mk hc0_4
 clear hr0_4 hc0_4
 have HB := qq.mk (Below.refl w.heap.size w)
 have H : ((some (([0] : List Int) : List Int)).bind fun y102 => ((qvx.f k (Int.tmod a0_0 4294967296)).bind fun t105 => (if y102.length + t105.length < 140737488355328 then ((some (y102 ++ t105 : List Int)).bind fun y108 => ((qvx.f k (wrap64 (Int.tdiv a0_0 4294967296))).bind fun t111 => (if y108.length + t111.length < 140737488355328 then ((some (y108 ++ t111 : List Int)).bind fun y114 => ((bytesOfS.f a0_1).bind fun t117 => ((qwq.f k t117).bind fun t120 => (if y114.length + t120.length < 140737488355328 then ((some (y114 ++ t120 : List Int)).bind fun y123 => ((qkx.f k a0_0 a0_1 a0_2 l0_3 l0_4).bind fun t126 => (if y123.length + t126.length < 140737488355328 then ((qwq.f k (y123 ++ t126)).bind fun t132 => (some t132)) else (none)))) else (none))))) else (none)))) else (none)))) = some r := h
 clear h
 obtain ⟨y102,hy102⟩ : ∃ y_ : List Int,y_ = (([0] : List Int)) := ⟨_,rfl⟩
 replace H : ((qvx.f k (Int.tmod a0_0 4294967296)).bind fun t105 => (if y102.length + t105.length < 140737488355328 then ((some (y102 ++ t105 : List Int)).bind fun y108 => ((qvx.f k (wrap64 (Int.tdiv a0_0 4294967296))).bind fun t111 => (if y108.length + t111.length < 140737488355328 then ((some (y108 ++ t111 : List Int)).bind fun y114 => ((bytesOfS.f a0_1).bind fun t117 => ((qwq.f k t117).bind fun t120 => (if y114.length + t120.length < 140737488355328 then ((some (y114 ++ t120 : List Int)).bind fun y123 => ((qkx.f k a0_0 a0_1 a0_2 l0_3 l0_4).bind fun t126 => (if y123.length + t126.length < 140737488355328 then ((qwq.f k (y123 ++ t126)).bind fun t132 => (some t132)) else (none)))) else (none))))) else (none)))) else (none))) = some r := by first | (rw [hy102];with_reducible exact H) | (have H2_ := (Option.bind_some _ _).symm.trans H;rw [hy102];with_reducible exact H2_) | (have H2_ := (Option.bind_some _ _).symm.trans H;with_reducible exact H2_) | with_reducible exact H | (rw [hy102];exact H) | exact H
 have Ny102 := qq.mk hy102
 clear hy102
 replace H := Option.bind_eq_some_iff.mp H
 obtain ⟨t105,A20,H⟩ := H
 replace H : (if y102.length + t105.length < 140737488355328 then ((some (y102 ++ t105 : List Int)).bind fun y108 => ((qvx.f k (wrap64 (Int.tdiv a0_0 4294967296))).bind fun t111 => (if y108.length + t111.length < 140737488355328 then ((some (y108 ++ t111 : List Int)).bind fun y114 => ((bytesOfS.f a0_1).bind fun t117 => ((qwq.f k t117).bind fun t120 => (if y114.length + t120.length < 140737488355328 then ((some (y114 ++ t120 : List Int)).bind fun y123 => ((qkx.f k a0_0 a0_1 a0_2 l0_3 l0_4).bind fun t126 => (if y123.length + t126.length < 140737488355328 then ((qwq.f k (y123 ++ t126)).bind fun t132 => (some t132)) else (none)))) else (none))))) else (none)))) else (none)) = some r := H
 have A2 := qq.mk A20
 clear A20
 by_cases c3 : y102.length + t105.length < 140737488355328
 ·rw [if_pos c3] at H
  have LMc3 := qq.mk c3
  clear c3
  obtain ⟨y108,hy108⟩ : ∃ y_ : List Int,y_ = (y102 ++ t105) := ⟨_,rfl⟩
  replace H : ((qvx.f k (wrap64 (Int.tdiv a0_0 4294967296))).bind fun t111 => (if y108.length + t111.length < 140737488355328 then ((some (y108 ++ t111 : List Int)).bind fun y114 => ((bytesOfS.f a0_1).bind fun t117 => ((qwq.f k t117).bind fun t120 => (if y114.length + t120.length < 140737488355328 then ((some (y114 ++ t120 : List Int)).bind fun y123 => ((qkx.f k a0_0 a0_1 a0_2 l0_3 l0_4).bind fun t126 => (if y123.length + t126.length < 140737488355328 then ((qwq.f k (y123 ++ t126)).bind fun t132 => (some t132)) else (none)))) else (none))))) else (none))) = some r := by first | (rw [hy108];with_reducible exact H) | (have H2_ := (Option.bind_some _ _).symm.trans H;rw [hy108];with_reducible exact H2_) | (have H2_ := (Option.bind_some _ _).symm.trans H;with_reducible exact H2_) | with_reducible exact H | (rw [hy108];exact H) | exact H
  have Ny108 := qq.mk hy108
  clear hy108
  replace H := Option.bind_eq_some_iff.mp H
  obtain ⟨t111,A40,H⟩ := H
  replace H : (if y108.length + t111.length < 140737488355328 then ((some (y108 ++ t111 : List Int)).bind fun y114 => ((bytesOfS.f a0_1).bind fun t117 => ((qwq.f k t117).bind fun t120 => (if y114.length + t120.length < 140737488355328 then ((some (y114 ++ t120 : List Int)).bind fun y123 => ((qkx.f k a0_0 a0_1 a0_2 l0_3 l0_4).bind fun t126 => (if y123.length + t126.length < 140737488355328 then ((qwq.f k (y123 ++ t126)).bind fun t132 => (some t132)) else (none)))) else (none))))) else (none)) = some r := H
  have A4 := qq.mk A40
  clear A40
  by_cases c5 : y108.length + t111.length < 140737488355328
  ·rw [if_pos c5] at H
   have LMc5 := qq.mk c5
   clear c5
   obtain ⟨y114,hy114⟩ : ∃ y_ : List Int,y_ = (y108 ++ t111) := ⟨_,rfl⟩
   replace H : ((bytesOfS.f a0_1).bind fun t117 => ((qwq.f k t117).bind fun t120 => (if y114.length + t120.length < 140737488355328 then ((some (y114 ++ t120 : List Int)).bind fun y123 => ((qkx.f k a0_0 a0_1 a0_2 l0_3 l0_4).bind fun t126 => (if y123.length + t126.length < 140737488355328 then ((qwq.f k (y123 ++ t126)).bind fun t132 => (some t132)) else (none)))) else (none)))) = some r := by first | (rw [hy114];with_reducible exact H) | (have H2_ := (Option.bind_some _ _).symm.trans H;rw [hy114];with_reducible exact H2_) | (have H2_ := (Option.bind_some _ _).symm.trans H;with_reducible exact H2_) | with_reducible exact H | (rw [hy114];exact H) | exact H
   have Ny114 := qq.mk hy114
   clear hy114
   replace H := Option.bind_eq_some_iff.mp H
   obtain ⟨t117,A60,H⟩ := H
   replace H : ((qwq.f k t117).bind fun t120 => (if y114.length + t120.length < 140737488355328 then ((some (y114 ++ t120 : List Int)).bind fun y123 => ((qkx.f k a0_0 a0_1 a0_2 l0_3 l0_4).bind fun t126 => (if y123.length + t126.length < 140737488355328 then ((qwq.f k (y123 ++ t126)).bind fun t132 => (some t132)) else (none)))) else (none))) = some r := H
   have A6 := qq.mk A60
   clear A60
   replace H := Option.bind_eq_some_iff.mp H
   obtain ⟨t120,A70,H⟩ := H
   replace H : (if y114.length + t120.length < 140737488355328 then ((some (y114 ++ t120 : List Int)).bind fun y123 => ((qkx.f k a0_0 a0_1 a0_2 l0_3 l0_4).bind fun t126 => (if y123.length + t126.length < 140737488355328 then ((qwq.f k (y123 ++ t126)).bind fun t132 => (some t132)) else (none)))) else (none)) = some r := H
   have A7 := qq.mk A70
   clear A70
   by_cases c8 : y114.length + t120.length < 140737488355328
   ·rw [if_pos c8] at H
    have LMc8 := qq.mk c8
    clear c8
    obtain ⟨y123,hy123⟩ : ∃ y_ : List Int,y_ = (y114 ++ t120) := ⟨_,rfl⟩
    replace H : ((qkx.f k a0_0 a0_1 a0_2 l0_3 l0_4).bind fun t126 => (if y123.length + t126.length < 140737488355328 then ((qwq.f k (y123 ++ t126)).bind fun t132 => (some t132)) else (none))) = some r := by first | (rw [hy123];with_reducible exact H) | (have H2_ := (Option.bind_some _ _).symm.trans H;rw [hy123];with_reducible exact H2_) | (have H2_ := (Option.bind_some _ _).symm.trans H;with_reducible exact H2_) | with_reducible exact H | (rw [hy123];exact H) | exact H
    have Ny123 := qq.mk hy123
    clear hy123
    replace H := Option.bind_eq_some_iff.mp H
    obtain ⟨t126,A90,H⟩ := H
    replace H : (if y123.length + t126.length < 140737488355328 then ((qwq.f k (y123 ++ t126)).bind fun t132 => (some t132)) else (none)) = some r := H
    have A9 := qq.mk A90
    clear A90
    by_cases c10 : y123.length + t126.length < 140737488355328
    ·rw [if_pos c10] at H
     have LMc10 := qq.mk c10
     clear c10
     obtain ⟨y129,hy129⟩ : ∃ y_ : List Int,y_ = (y123 ++ t126) := ⟨_,rfl⟩
     replace H : ((qwq.f k y129).bind fun t132 => (some t132)) = some r := by first | (rw [hy129];with_reducible exact H) | (have H2_ := (Option.bind_some _ _).symm.trans H;rw [hy129];with_reducible exact H2_) | (have H2_ := (Option.bind_some _ _).symm.trans H;with_reducible exact H2_) | with_reducible exact H | (rw [hy129];exact H) | exact H
     have Ny129 := qq.mk hy129
     clear hy129
     replace H := Option.bind_eq_some_iff.mp H
     obtain ⟨t132,A110,H⟩ := H
     replace H : (some t132) = some r := H
     have A11 := qq.mk A110
     clear A110
     obtain rfl := Option.some.inj H
     go_enter Try.func76,Try.ntmps76
     go_wp2_with (first | ((with_reducible refine gate_dst (N := 1) rfl ?_);refine box_event ?hg (N := 1) ?hd (cs := #[.int .i64 a0_0,.string a0_1,.string a0_2,.slice A0_3 l0_3.length c0_3,.slice A0_4 l0_4.length c0_4]) (t := 27) ?hr ?_;(case hd => rfl);(case hg => rfl);(case hr => first | (go_simp;done) | (go_simp;rfl));intro gb101 hg w12 hbox hb;have n0_ := qq.mk (zv (by repeat (first | (with_reducible first | exact HB.out | apply qj | apply qz | apply qk) | exact HB.out)) hb);have n1_ := qq.mk (hbox);have n2_ := qq.mk ((by rw [hg];exact (zw (by repeat (first | (with_reducible first | exact HB.out | apply qj | apply qz | apply qk) | exact HB.out))) : w.heap.size ≤ gb101));have n3_ := qq.mk ((by rw [hg];exact (zw (by repeat (first | (with_reducible first | exact HB.out | apply qj | apply qz | apply qk) | exact HB.out))) : w.heap.size ≤ gb101));clear HB;have HB := n0_;have BK101 := n1_;have GW101 := n2_;have GE101 := n3_;clear n0_ n1_ n2_ n3_;clear hb hbox hg) | ((with_reducible refine gate_dst (N := 4) rfl ?_);refine Kd.R_lit (Kd.int .u8) _ 5 ?hg (N := 4) ?hd (xs := ([0] : List Int)) (inner := [.int .u8 0]) (ok := fun _ => True) (okp := fun _ => True) ?hr ?hp (fun _ hk => hk) trivial (Below.refl _ _) (Nat.le_refl _) (by simp) ?_;(case hd => rfl);(case hg => rfl);(case hr => first | (go_simp;done) | (go_simp;rfl));(case hp => exact (Reps.one (show Kd.M (Kd.int .u8) _ _ _ 0 [.int .u8 0] from rfl) (Reps.none _ _)));intro v103 w13 ho14 hb hg_ hnew_;clear hg_ hnew_;(first | rw [← Ny102.out] at ho14 | (simp only [Int.reduceToNat] at ho14;rw [← Ny102.out] at ho14));have n0_ := qq.mk (Kd.R_lower ho14 (zw (by repeat (first | (with_reducible first | exact HB.out | apply qj | apply qz | apply qk | refine qx ?_ GE101.out) | exact HB.out))));have n1_ := qq.mk (vw (g := gb101) (o := .cells #[.int .i64 a0_0,.string a0_1,.string a0_2,.slice A0_3 l0_3.length c0_3,.slice A0_4 l0_4.length c0_4] 27 (0,0)) (by (with_reducible repeat (first | refine zz ?_ _ | refine zj ?_ | refine zq ?_ _));exact BK101.out) hb);have n2_ := qq.mk (zv (by repeat (first | (with_reducible first | exact HB.out | apply qj | apply qz | apply qk | refine qx ?_ GE101.out) | exact HB.out)) hb);clear BK101;clear HB;have HO104 := n0_;have BK101 := n1_;have HB := n2_;clear n0_ n1_ n2_;clear hb ho14;have hcz15_0 : w13.cell? ⟨gb101,0,none⟩ = some (.int .i64 a0_0) := (qw BK101.out 0).trans rfl;have hcz15_1 : w13.cell? ⟨gb101,1,none⟩ = some (.string a0_1) := (qw BK101.out 1).trans rfl;have hcz15_2 : w13.cell? ⟨gb101,2,none⟩ = some (.string a0_2) := (qw BK101.out 2).trans rfl;have hcz15_3 : w13.cell? ⟨gb101,3,none⟩ = some (.slice A0_3 l0_3.length c0_3) := (qw BK101.out 3).trans rfl;have hcz15_4 : w13.cell? ⟨gb101,4,none⟩ = some (.slice A0_4 l0_4.length c0_4) := (qw BK101.out 4).trans rfl;have hfz15_0 := qv BK101.out 0;have hfz15_1 := qv BK101.out 1;have hfz15_2 := qv BK101.out 2;have hfz15_3 := qv BK101.out 3;have hfz15_4 := qv BK101.out 4) | ((with_reducible refine jv (f := 115) rfl ?_);refine goesL_ (some 9) rfl rfl Try.func115 (by kernel_rfl) rfl #[.int .i64 (Int.tmod a0_0 4294967296)] rfl (by (try simp only [List.map_toArray,List.map_cons,List.map_nil]);first | done | rfl | (simp only [List.length_drop,List.length_take];rfl)) ?_;(with_reducible refine (qvx.calls k (Int.tmod a0_0 4294967296) t105 _ A2.out).mono ?_);rintro e w16 ⟨v106,rfl,ho0,hb⟩;refine ⟨_,rfl,?_⟩;have n0_ := qq.mk (Kd.R_elder' (by (with_reducible repeat (first | apply Kd.jq | apply Kd.zx | apply Kd.jz));exact HO104.out) (Kd.R_base ho0) hb);have n1_ := qq.mk (Kd.R_lower (Kd.R_new' ho0 (Kd.R_lt (by (with_reducible repeat (first | apply Kd.jq | apply Kd.zx | apply Kd.jz));exact HO104.out))) (zw (by repeat (first | (with_reducible first | exact HB.out | apply qj | apply qz | apply qk | refine qx ?_ GE101.out) | exact HB.out))));have n2_ := qq.mk (vw (g := gb101) (o := .cells #[.int .i64 a0_0,.string a0_1,.string a0_2,.slice A0_3 l0_3.length c0_3,.slice A0_4 l0_4.length c0_4] 27 (0,0)) (by (with_reducible repeat (first | refine zz ?_ _ | refine zj ?_ | refine zq ?_ _));exact BK101.out) hb);have n3_ := qq.mk (zv (by repeat (first | (with_reducible first | exact HB.out | apply qj | apply qz | apply qk | refine qx ?_ GE101.out) | exact HB.out)) hb);clear HO104;clear BK101;clear HB;have HO104 := n0_;have HO107 := n1_;have BK101 := n2_;have HB := n3_;clear n0_ n1_ n2_ n3_;(try clear hb);(try clear hb2);(try clear hk);(try clear hi);(try clear ho0);obtain ⟨Ao18,co18,eo18⟩ := Kd.R_slice HO107.out;subst eo18) | ((with_reducible refine gate_builtin (b := .append) (xs := #[.tmp 5,.tmp 9]) rfl ?_);at_builtin;refine Kd.R_append_rows (Kd.int .u8) (w0 := w) w.heap.size rfl (.tmp 5) (.tmp 9) 22 5 (.int .u8 0) 1 rfl Try.underlying22 info5 rfl (by decide) (by omega) v103 y102 t105 _ _ _ (fun k_ => some k_ ≠ (.slice Ao18 t105.length co18 : Value).ownBlock) (fun _ => False) rfl rfl ?aO ?aR (fun _ _ h => h) (fun _ h => h.elim) ?aF ?aB ?aS ?aL ?_;(case aR => repeat (first | exact (Kd.R_reads' HO107.out).2.2 | (with_reducible refine Kd.C_alloc ?_ _) | (with_reducible refine Kd.C_drewN ?_ _) | (with_reducible refine Kd.C_drew ?_)));(case aB => exact (by repeat (first | (with_reducible first | exact HB.out | apply qj | apply qz | apply qk | refine qx ?_ GE101.out) | exact HB.out)));(case aF => exact (fun k_ hk => Kd.fresh' (Kd.R_lt (by (with_reducible repeat (first | apply Kd.jq | apply Kd.zx | apply Kd.jz));exact HO107.out)) k_ hk));(case aO => exact (by (with_reducible repeat (first | apply Kd.jq | apply Kd.zx | apply Kd.jz));exact Kd.R_mono HO104.out (fun _ hk => hk.2)));(case aS => exact (zw (by repeat (first | (with_reducible first | exact HB.out | apply qj | apply qz | apply qk | refine qx ?_ GE101.out) | exact HB.out))));(case aL => have := LMc3.out;omega);intro v109 w17 ho hb hg hat;rw [← Ny108.out] at ho;have n0_ := qq.mk (blk_grown (g := gb101) (o := .cells #[.int .i64 a0_0,.string a0_1,.string a0_2,.slice A0_3 l0_3.length c0_3,.slice A0_4 l0_4.length c0_4] 27 (0,0)) (by (with_reducible repeat (first | refine zz ?_ _ | refine zj ?_ | refine zq ?_ _));exact BK101.out) hg (Kd.R_ne HO104.out BK101.out (by decide)));have n1_ := qq.mk (Kd.R_after (ok := (fun _ => True)) (by (with_reducible repeat (first | apply Kd.jq | apply Kd.zx | apply Kd.jz));exact HO107.out) hg hat);have n2_ := qq.mk (hb);have n3_ := qq.mk (ho);clear BK101;clear HO107;clear HB;clear HO104;have BK101 := n0_;have HO107 := n1_;have HB := n2_;have HO110 := n3_;clear n0_ n1_ n2_ n3_;clear ho hb hg hat;have hcz19_0 : w17.cell? ⟨gb101,0,none⟩ = some (.int .i64 a0_0) := (qw BK101.out 0).trans rfl;have hcz19_1 : w17.cell? ⟨gb101,1,none⟩ = some (.string a0_1) := (qw BK101.out 1).trans rfl;have hcz19_2 : w17.cell? ⟨gb101,2,none⟩ = some (.string a0_2) := (qw BK101.out 2).trans rfl;have hcz19_3 : w17.cell? ⟨gb101,3,none⟩ = some (.slice A0_3 l0_3.length c0_3) := (qw BK101.out 3).trans rfl;have hcz19_4 : w17.cell? ⟨gb101,4,none⟩ = some (.slice A0_4 l0_4.length c0_4) := (qw BK101.out 4).trans rfl;have hfz19_0 := qv BK101.out 0;have hfz19_1 := qv BK101.out 1;have hfz19_2 := qv BK101.out 2;have hfz19_3 := qv BK101.out 3;have hfz19_4 := qv BK101.out 4) | ((with_reducible refine jv (f := 115) rfl ?_);refine goesL_ (some 15) rfl rfl Try.func115 (by kernel_rfl) rfl #[.int .i64 (wrap64 (Int.tdiv a0_0 4294967296))] rfl (by (try simp only [List.map_toArray,List.map_cons,List.map_nil]);first | done | rfl | (simp only [List.length_drop,List.length_take];rfl)) ?_;(with_reducible refine (qvx.calls k (wrap64 (Int.tdiv a0_0 4294967296)) t111 _ A4.out).mono ?_);rintro e w20 ⟨v112,rfl,ho0,hb⟩;refine ⟨_,rfl,?_⟩;have n0_ := qq.mk (Kd.R_elder' (by (with_reducible repeat (first | apply Kd.jq | apply Kd.zx | apply Kd.jz));exact HO107.out) (Kd.R_base ho0) hb);have n1_ := qq.mk (Kd.R_elder' (by (with_reducible repeat (first | apply Kd.jq | apply Kd.zx | apply Kd.jz));exact HO110.out) (Kd.R_base ho0) hb);have n2_ := qq.mk (Kd.R_lower (Kd.R_new' (Kd.R_new' ho0 (Kd.R_lt (by (with_reducible repeat (first | apply Kd.jq | apply Kd.zx | apply Kd.jz));exact HO107.out))) (Kd.R_lt (by (with_reducible repeat (first | apply Kd.jq | apply Kd.zx | apply Kd.jz));exact HO110.out))) (zw (by repeat (first | (with_reducible first | exact HB.out | apply qj | apply qz | apply qk | refine qx ?_ GE101.out) | exact HB.out))));have n3_ := qq.mk (vw (g := gb101) (o := .cells #[.int .i64 a0_0,.string a0_1,.string a0_2,.slice A0_3 l0_3.length c0_3,.slice A0_4 l0_4.length c0_4] 27 (0,0)) (by (with_reducible repeat (first | refine zz ?_ _ | refine zj ?_ | refine zq ?_ _));exact BK101.out) hb);have n4_ := qq.mk (zv (by repeat (first | (with_reducible first | exact HB.out | apply qj | apply qz | apply qk | refine qx ?_ GE101.out) | exact HB.out)) hb);clear HO107;clear HO110;clear BK101;clear HB;have HO107 := n0_;have HO110 := n1_;have HO113 := n2_;have BK101 := n3_;have HB := n4_;clear n0_ n1_ n2_ n3_ n4_;(try clear hb);(try clear hb2);(try clear hk);(try clear hi);(try clear ho0);obtain ⟨Ao22,co22,eo22⟩ := Kd.R_slice HO113.out;subst eo22) | ((with_reducible refine gate_builtin (b := .append) (xs := #[.tmp 11,.tmp 15]) rfl ?_);at_builtin;refine Kd.R_append_rows (Kd.int .u8) (w0 := w) w.heap.size rfl (.tmp 11) (.tmp 15) 22 5 (.int .u8 0) 1 rfl Try.underlying22 info5 rfl (by decide) (by omega) v109 y108 t111 _ _ _ (fun k_ => some k_ ≠ (.slice Ao18 t105.length co18 : Value).ownBlock ∧ some k_ ≠ (.slice Ao22 t111.length co22 : Value).ownBlock) (fun _ => False) rfl rfl ?aO ?aR (fun _ _ h => h) (fun _ h => h.elim) ?aF ?aB ?aS ?aL ?_;(case aR => repeat (first | exact (Kd.R_reads' HO113.out).2.2 | (with_reducible refine Kd.C_alloc ?_ _) | (with_reducible refine Kd.C_drewN ?_ _) | (with_reducible refine Kd.C_drew ?_)));(case aB => exact (by repeat (first | (with_reducible first | exact HB.out | apply qj | apply qz | apply qk | refine qx ?_ GE101.out) | exact HB.out)));(case aF => exact (fun k_ hk => ⟨Kd.fresh' (Kd.R_lt (by (with_reducible repeat (first | apply Kd.jq | apply Kd.zx | apply Kd.jz));exact HO107.out)) k_ hk,Kd.fresh' (Kd.R_lt (by (with_reducible repeat (first | apply Kd.jq | apply Kd.zx | apply Kd.jz));exact HO113.out)) k_ hk⟩));(case aO => exact (by (with_reducible repeat (first | apply Kd.jq | apply Kd.zx | apply Kd.jz));exact HO110.out));(case aS => exact (zw (by repeat (first | (with_reducible first | exact HB.out | apply qj | apply qz | apply qk | refine qx ?_ GE101.out) | exact HB.out))));(case aL => have := LMc5.out;omega);intro v115 w21 ho hb hg hat;rw [← Ny114.out] at ho;have n0_ := qq.mk (blk_grown (g := gb101) (o := .cells #[.int .i64 a0_0,.string a0_1,.string a0_2,.slice A0_3 l0_3.length c0_3,.slice A0_4 l0_4.length c0_4] 27 (0,0)) (by (with_reducible repeat (first | refine zz ?_ _ | refine zj ?_ | refine zq ?_ _));exact BK101.out) hg (Kd.R_ne HO110.out BK101.out (by decide)));have n1_ := qq.mk (Kd.R_after (ok := (fun k_ => some k_ ≠ (.slice Ao22 t111.length co22 : Value).ownBlock)) (by (with_reducible repeat (first | apply Kd.jq | apply Kd.zx | apply Kd.jz));exact Kd.R_mono HO107.out (fun _ hk => ⟨hk.2,hk.1.2⟩)) hg hat);have n2_ := qq.mk (Kd.R_after (ok := (fun k_ => some k_ ≠ (.slice Ao18 t105.length co18 : Value).ownBlock)) (by (with_reducible repeat (first | apply Kd.jq | apply Kd.zx | apply Kd.jz));exact Kd.R_mono HO113.out (fun _ hk => ⟨hk.1.2,hk.2⟩)) hg hat);have n3_ := qq.mk (hb);have n4_ := qq.mk (ho);clear BK101;clear HO107;clear HO113;clear HB;clear HO110;have BK101 := n0_;have HO107 := n1_;have HO113 := n2_;have HB := n3_;have HO116 := n4_;clear n0_ n1_ n2_ n3_ n4_;clear ho hb hg hat;have hcz23_0 : w21.cell? ⟨gb101,0,none⟩ = some (.int .i64 a0_0) := (qw BK101.out 0).trans rfl;have hcz23_1 : w21.cell? ⟨gb101,1,none⟩ = some (.string a0_1) := (qw BK101.out 1).trans rfl;have hcz23_2 : w21.cell? ⟨gb101,2,none⟩ = some (.string a0_2) := (qw BK101.out 2).trans rfl;have hcz23_3 : w21.cell? ⟨gb101,3,none⟩ = some (.slice A0_3 l0_3.length c0_3) := (qw BK101.out 3).trans rfl;have hcz23_4 : w21.cell? ⟨gb101,4,none⟩ = some (.slice A0_4 l0_4.length c0_4) := (qw BK101.out 4).trans rfl;have hfz23_0 := qv BK101.out 0;have hfz23_1 := qv BK101.out 1;have hfz23_2 := qv BK101.out 2;have hfz23_3 := qv BK101.out 3;have hfz23_4 := qv BK101.out 4) | ((with_reducible refine gate_convert (src := 9) (dst := 22) rfl ?_);refine bytesGoesL_ (some 20) rfl rfl (s := a0_1) rfl rfl ?_;(with_reducible refine (bytesOfS.calls a0_1 t117 _ A6.out).mono ?_);rintro e w24 ⟨v118,rfl,ho0,hb⟩;refine ⟨_,rfl,?_⟩;have n0_ := qq.mk (Kd.R_below (by (with_reducible repeat (first | apply Kd.jq | apply Kd.zx | apply Kd.jz));exact HO107.out) hb);have n1_ := qq.mk (Kd.R_below (by (with_reducible repeat (first | apply Kd.jq | apply Kd.zx | apply Kd.jz));exact HO113.out) hb);have n2_ := qq.mk (Kd.R_below (by (with_reducible repeat (first | apply Kd.jq | apply Kd.zx | apply Kd.jz));exact HO116.out) hb);have n3_ := qq.mk (Kd.V_lower (Kd.V_mono (ok' := fun k_ => some k_ ≠ (.slice Ao18 t105.length co18 : Value).ownBlock ∧ some k_ ≠ (.slice Ao22 t111.length co22 : Value).ownBlock ∧ some k_ ≠ (v115 : Value).ownBlock ∧ k_ ≠ gb101) ho0 (fun k_ hk_ => ⟨(Kd.fresh' (Kd.R_lt (by (with_reducible repeat (first | apply Kd.jq | apply Kd.zx | apply Kd.jz));exact HO107.out)) k_ hk_),(Kd.fresh' (Kd.R_lt (by (with_reducible repeat (first | apply Kd.jq | apply Kd.zx | apply Kd.jz));exact HO113.out)) k_ hk_),(Kd.fresh' (Kd.R_lt (by (with_reducible repeat (first | apply Kd.jq | apply Kd.zx | apply Kd.jz));exact HO116.out)) k_ hk_),(Kd.freshB (g := gb101) (o := .cells #[.int .i64 a0_0,.string a0_1,.string a0_2,.slice A0_3 l0_3.length c0_3,.slice A0_4 l0_4.length c0_4] 27 (0,0)) (by (with_reducible repeat (first | refine zz ?_ _ | refine zj ?_ | refine zq ?_ _));exact BK101.out) k_ hk_)⟩)) (zw (by repeat (first | (with_reducible first | exact HB.out | apply qj | apply qz | apply qk | refine qx ?_ GE101.out) | exact HB.out))));have n4_ := qq.mk (vw (g := gb101) (o := .cells #[.int .i64 a0_0,.string a0_1,.string a0_2,.slice A0_3 l0_3.length c0_3,.slice A0_4 l0_4.length c0_4] 27 (0,0)) (by (with_reducible repeat (first | refine zz ?_ _ | refine zj ?_ | refine zq ?_ _));exact BK101.out) hb);have n5_ := qq.mk (zv (by repeat (first | (with_reducible first | exact HB.out | apply qj | apply qz | apply qk | refine qx ?_ GE101.out) | exact HB.out)) hb);clear HO107;clear HO113;clear HO116;clear BK101;clear HB;have HO107 := n0_;have HO113 := n1_;have HO116 := n2_;have HO119 := n3_;have BK101 := n4_;have HB := n5_;clear n0_ n1_ n2_ n3_ n4_ n5_;(try clear hb);(try clear hb2);(try clear hk);(try clear hi);(try clear ho0);obtain ⟨Ao25,co25,eo25⟩ := Kd.V_slice HO119.out;subst eo25) | ((with_reducible refine jv (f := 116) rfl ?_);refine goesL_ (some 21) rfl rfl Try.func116 (by kernel_rfl) rfl #[.slice Ao25 t117.length co25] rfl (by (try simp only [List.map_toArray,List.map_cons,List.map_nil]);first | done | rfl | (simp only [List.length_drop,List.length_take];rfl)) ?_;(with_reducible refine (qwq.calls k _ _ t117 t120 _ ?side1 ?side2 A7.out).mono ?_);(case side1 => repeat (first | exact (Kd.V_reads' HO119.out).2.2 | (with_reducible refine Kd.C_alloc ?_ _) | (with_reducible refine Kd.C_drewN ?_ _) | (with_reducible refine Kd.C_drew ?_)));(case side2 => exact (Kd.V_reads' HO119.out).2.1);rintro e w26 ⟨v121,rfl,ho0,hb⟩;refine ⟨_,rfl,?_⟩;have n0_ := qq.mk (Kd.R_elder' (by (with_reducible repeat (first | apply Kd.jq | apply Kd.zx | apply Kd.jz));exact HO107.out) (Kd.R_base ho0) hb);have n1_ := qq.mk (Kd.R_elder' (by (with_reducible repeat (first | apply Kd.jq | apply Kd.zx | apply Kd.jz));exact HO113.out) (Kd.R_base ho0) hb);have n2_ := qq.mk (Kd.R_elder' (by (with_reducible repeat (first | apply Kd.jq | apply Kd.zx | apply Kd.jz));exact HO116.out) (Kd.R_base ho0) hb);have n3_ := qq.mk (Kd.V_elder' (by (with_reducible repeat (first | apply Kd.vk | apply Kd.vz | apply Kd.vv));exact HO119.out) (Kd.R_base ho0) hb);have n4_ := qq.mk (Kd.R_lower (Kd.R_new' (Kd.R_new' (Kd.R_new' ho0 (Kd.R_lt (by (with_reducible repeat (first | apply Kd.jq | apply Kd.zx | apply Kd.jz));exact HO107.out))) (Kd.R_lt (by (with_reducible repeat (first | apply Kd.jq | apply Kd.zx | apply Kd.jz));exact HO113.out))) (Kd.R_lt (by (with_reducible repeat (first | apply Kd.jq | apply Kd.zx | apply Kd.jz));exact HO116.out))) (zw (by repeat (first | (with_reducible first | exact HB.out | apply qj | apply qz | apply qk | refine qx ?_ GE101.out) | exact HB.out))));have n5_ := qq.mk (vw (g := gb101) (o := .cells #[.int .i64 a0_0,.string a0_1,.string a0_2,.slice A0_3 l0_3.length c0_3,.slice A0_4 l0_4.length c0_4] 27 (0,0)) (by (with_reducible repeat (first | refine zz ?_ _ | refine zj ?_ | refine zq ?_ _));exact BK101.out) hb);have n6_ := qq.mk (zv (by repeat (first | (with_reducible first | exact HB.out | apply qj | apply qz | apply qk | refine qx ?_ GE101.out) | exact HB.out)) hb);clear HO107;clear HO113;clear HO116;clear HO119;clear BK101;clear HB;have HO107 := n0_;have HO113 := n1_;have HO116 := n2_;have HO119 := n3_;have HO122 := n4_;have BK101 := n5_;have HB := n6_;clear n0_ n1_ n2_ n3_ n4_ n5_ n6_;(try clear hb);(try clear hb2);(try clear hk);(try clear hi);(try clear ho0);obtain ⟨Ao28,co28,eo28⟩ := Kd.R_slice HO122.out;subst eo28) | ((with_reducible refine gate_builtin (b := .append) (xs := #[.tmp 17,.tmp 21]) rfl ?_);at_builtin;refine Kd.R_append_rows (Kd.int .u8) (w0 := w) w.heap.size rfl (.tmp 17) (.tmp 21) 22 5 (.int .u8 0) 1 rfl Try.underlying22 info5 rfl (by decide) (by omega) v115 y114 t120 _ _ _ (fun k_ => some k_ ≠ (.slice Ao18 t105.length co18 : Value).ownBlock ∧ some k_ ≠ (.slice Ao22 t111.length co22 : Value).ownBlock ∧ some k_ ≠ (.slice Ao28 t120.length co28 : Value).ownBlock) (fun _ => False) rfl rfl ?aO ?aR (fun _ _ h => h) (fun _ h => h.elim) ?aF ?aB ?aS ?aL ?_;(case aR => repeat (first | exact (Kd.R_reads' HO122.out).2.2 | (with_reducible refine Kd.C_alloc ?_ _) | (with_reducible refine Kd.C_drewN ?_ _) | (with_reducible refine Kd.C_drew ?_)));(case aB => exact (by repeat (first | (with_reducible first | exact HB.out | apply qj | apply qz | apply qk | refine qx ?_ GE101.out) | exact HB.out)));(case aF => exact (fun k_ hk => ⟨Kd.fresh' (Kd.R_lt (by (with_reducible repeat (first | apply Kd.jq | apply Kd.zx | apply Kd.jz));exact HO107.out)) k_ hk,Kd.fresh' (Kd.R_lt (by (with_reducible repeat (first | apply Kd.jq | apply Kd.zx | apply Kd.jz));exact HO113.out)) k_ hk,Kd.fresh' (Kd.R_lt (by (with_reducible repeat (first | apply Kd.jq | apply Kd.zx | apply Kd.jz));exact HO122.out)) k_ hk⟩));(case aO => exact (by (with_reducible repeat (first | apply Kd.jq | apply Kd.zx | apply Kd.jz));exact Kd.R_mono HO116.out (fun _ hk => ⟨hk.1.1,⟨hk.1.2,hk.2⟩⟩)));(case aS => exact (zw (by repeat (first | (with_reducible first | exact HB.out | apply qj | apply qz | apply qk | refine qx ?_ GE101.out) | exact HB.out))));(case aL => have := LMc8.out;omega);intro v124 w27 ho hb hg hat;rw [← Ny123.out] at ho;have n0_ := qq.mk (blk_grown (g := gb101) (o := .cells #[.int .i64 a0_0,.string a0_1,.string a0_2,.slice A0_3 l0_3.length c0_3,.slice A0_4 l0_4.length c0_4] 27 (0,0)) (by (with_reducible repeat (first | refine zz ?_ _ | refine zj ?_ | refine zq ?_ _));exact BK101.out) hg (Kd.R_ne HO116.out BK101.out (by decide)));have n1_ := qq.mk (Kd.R_after (ok := (fun k_ => some k_ ≠ (.slice Ao22 t111.length co22 : Value).ownBlock ∧ some k_ ≠ (.slice Ao28 t120.length co28 : Value).ownBlock)) (by (with_reducible repeat (first | apply Kd.jq | apply Kd.zx | apply Kd.jz));exact Kd.R_mono HO107.out (fun _ hk => ⟨⟨hk.1.1,hk.2⟩,hk.1.2⟩)) hg hat);have n2_ := qq.mk (Kd.R_after (ok := (fun k_ => some k_ ≠ (.slice Ao18 t105.length co18 : Value).ownBlock ∧ some k_ ≠ (.slice Ao28 t120.length co28 : Value).ownBlock)) (by (with_reducible repeat (first | apply Kd.jq | apply Kd.zx | apply Kd.jz));exact Kd.R_mono HO113.out (fun _ hk => ⟨⟨hk.1.1,hk.2⟩,hk.1.2⟩)) hg hat);have n3_ := qq.mk (Kd.V_afterv (ok := (fun k_ => some k_ ≠ (.slice Ao18 t105.length co18 : Value).ownBlock ∧ some k_ ≠ (.slice Ao22 t111.length co22 : Value).ownBlock ∧ some k_ ≠ (.slice Ao28 t120.length co28 : Value).ownBlock ∧ k_ ≠ gb101)) (by (with_reducible repeat (first | apply Kd.vk | apply Kd.vz | apply Kd.vv));exact Kd.V_mono HO119.out (fun _ hk => ⟨⟨hk.1.1,⟨hk.1.2.1,⟨hk.2,hk.1.2.2.2⟩⟩⟩,hk.1.2.2.1⟩)) hg hat);have n4_ := qq.mk (Kd.R_after (ok := (fun k_ => some k_ ≠ (.slice Ao18 t105.length co18 : Value).ownBlock ∧ some k_ ≠ (.slice Ao22 t111.length co22 : Value).ownBlock)) (by (with_reducible repeat (first | apply Kd.jq | apply Kd.zx | apply Kd.jz));exact Kd.R_mono HO122.out (fun _ hk => ⟨⟨hk.1.1.2,hk.1.2⟩,hk.2⟩)) hg hat);have n5_ := qq.mk (hb);have n6_ := qq.mk (ho);clear BK101;clear HO107;clear HO113;clear HO119;clear HO122;clear HB;clear HO116;have BK101 := n0_;have HO107 := n1_;have HO113 := n2_;have HO119 := n3_;have HO122 := n4_;have HB := n5_;have HO125 := n6_;clear n0_ n1_ n2_ n3_ n4_ n5_ n6_;clear ho hb hg hat;have hcz29_0 : w27.cell? ⟨gb101,0,none⟩ = some (.int .i64 a0_0) := (qw BK101.out 0).trans rfl;have hcz29_1 : w27.cell? ⟨gb101,1,none⟩ = some (.string a0_1) := (qw BK101.out 1).trans rfl;have hcz29_2 : w27.cell? ⟨gb101,2,none⟩ = some (.string a0_2) := (qw BK101.out 2).trans rfl;have hcz29_3 : w27.cell? ⟨gb101,3,none⟩ = some (.slice A0_3 l0_3.length c0_3) := (qw BK101.out 3).trans rfl;have hcz29_4 : w27.cell? ⟨gb101,4,none⟩ = some (.slice A0_4 l0_4.length c0_4) := (qw BK101.out 4).trans rfl;have hfz29_0 := qv BK101.out 0;have hfz29_1 := qv BK101.out 1;have hfz29_2 := qv BK101.out 2;have hfz29_3 := qv BK101.out 3;have hfz29_4 := qv BK101.out 4) | ((with_reducible refine jv (f := 73) rfl ?_);refine goesL_ (some 25) rfl rfl Try.func73 (by kernel_rfl) rfl #[.agg #[.int .i64 a0_0,.string a0_1,.string a0_2,.slice A0_3 l0_3.length c0_3,.slice A0_4 l0_4.length c0_4]] rfl (by (try simp only [List.map_toArray,List.map_cons,List.map_nil]);first | done | rfl | (simp only [List.length_drop,List.length_take];rfl)) ?_;(with_reducible refine (qkx.calls k a0_0 a0_1 a0_2 _ _ l0_3 _ _ l0_4 t126 _ ?side1 ?side2 ?side3 ?side4 A9.out).mono ?_);(case side1 => repeat (first | exact (Kd.C_below HR0_3.out HB.out) | (with_reducible refine Kd.C_alloc ?_ _) | (with_reducible refine Kd.C_drewN ?_ _) | (with_reducible refine Kd.C_drew ?_)));(case side2 => exact HC0_3.out);(case side3 => repeat (first | exact (Kd.C_below HR0_4.out HB.out) | (with_reducible refine Kd.C_alloc ?_ _) | (with_reducible refine Kd.C_drewN ?_ _) | (with_reducible refine Kd.C_drew ?_)));(case side4 => exact HC0_4.out);rintro e w30 ⟨v127,rfl,ho0,hb⟩;refine ⟨_,rfl,?_⟩;have n0_ := qq.mk (Kd.R_elder' (by (with_reducible repeat (first | apply Kd.jq | apply Kd.zx | apply Kd.jz));exact HO107.out) (Kd.R_base ho0) hb);have n1_ := qq.mk (Kd.R_elder' (by (with_reducible repeat (first | apply Kd.jq | apply Kd.zx | apply Kd.jz));exact HO113.out) (Kd.R_base ho0) hb);have n2_ := qq.mk (Kd.V_elder' (by (with_reducible repeat (first | apply Kd.vk | apply Kd.vz | apply Kd.vv));exact HO119.out) (Kd.R_base ho0) hb);have n3_ := qq.mk (Kd.R_elder' (by (with_reducible repeat (first | apply Kd.jq | apply Kd.zx | apply Kd.jz));exact HO122.out) (Kd.R_base ho0) hb);have n4_ := qq.mk (Kd.R_elder' (by (with_reducible repeat (first | apply Kd.jq | apply Kd.zx | apply Kd.jz));exact HO125.out) (Kd.R_base ho0) hb);have n5_ := qq.mk (Kd.R_lower (Kd.R_new' (Kd.R_new' (Kd.R_new' (Kd.R_new' ho0 (Kd.R_lt (by (with_reducible repeat (first | apply Kd.jq | apply Kd.zx | apply Kd.jz));exact HO107.out))) (Kd.R_lt (by (with_reducible repeat (first | apply Kd.jq | apply Kd.zx | apply Kd.jz));exact HO113.out))) (Kd.R_lt (by (with_reducible repeat (first | apply Kd.jq | apply Kd.zx | apply Kd.jz));exact HO122.out))) (Kd.R_lt (by (with_reducible repeat (first | apply Kd.jq | apply Kd.zx | apply Kd.jz));exact HO125.out))) (zw (by repeat (first | (with_reducible first | exact HB.out | apply qj | apply qz | apply qk | refine qx ?_ GE101.out) | exact HB.out))));have n6_ := qq.mk (vw (g := gb101) (o := .cells #[.int .i64 a0_0,.string a0_1,.string a0_2,.slice A0_3 l0_3.length c0_3,.slice A0_4 l0_4.length c0_4] 27 (0,0)) (by (with_reducible repeat (first | refine zz ?_ _ | refine zj ?_ | refine zq ?_ _));exact BK101.out) hb);have n7_ := qq.mk (zv (by repeat (first | (with_reducible first | exact HB.out | apply qj | apply qz | apply qk | refine qx ?_ GE101.out) | exact HB.out)) hb);clear HO107;clear HO113;clear HO119;clear HO122;clear HO125;clear BK101;clear HB;have HO107 := n0_;have HO113 := n1_;have HO119 := n2_;have HO122 := n3_;have HO125 := n4_;have HO128 := n5_;have BK101 := n6_;have HB := n7_;clear n0_ n1_ n2_ n3_ n4_ n5_ n6_ n7_;(try clear hb);(try clear hb2);(try clear hk);(try clear hi);(try clear ho0);obtain ⟨Ao32,co32,eo32⟩ := Kd.R_slice HO128.out;subst eo32) | ((with_reducible refine gate_builtin (b := .append) (xs := #[.tmp 23,.tmp 25]) rfl ?_);at_builtin;refine Kd.R_append_rows (Kd.int .u8) (w0 := w) w.heap.size rfl (.tmp 23) (.tmp 25) 22 5 (.int .u8 0) 1 rfl Try.underlying22 info5 rfl (by decide) (by omega) v124 y123 t126 _ _ _ (fun k_ => some k_ ≠ (.slice Ao18 t105.length co18 : Value).ownBlock ∧ some k_ ≠ (.slice Ao22 t111.length co22 : Value).ownBlock ∧ some k_ ≠ (.slice Ao28 t120.length co28 : Value).ownBlock ∧ some k_ ≠ (.slice Ao32 t126.length co32 : Value).ownBlock) (fun _ => False) rfl rfl ?aO ?aR (fun _ _ h => h) (fun _ h => h.elim) ?aF ?aB ?aS ?aL ?_;(case aR => repeat (first | exact (Kd.R_reads' HO128.out).2.2 | (with_reducible refine Kd.C_alloc ?_ _) | (with_reducible refine Kd.C_drewN ?_ _) | (with_reducible refine Kd.C_drew ?_)));(case aB => exact (by repeat (first | (with_reducible first | exact HB.out | apply qj | apply qz | apply qk | refine qx ?_ GE101.out) | exact HB.out)));(case aF => exact (fun k_ hk => ⟨Kd.fresh' (Kd.R_lt (by (with_reducible repeat (first | apply Kd.jq | apply Kd.zx | apply Kd.jz));exact HO107.out)) k_ hk,Kd.fresh' (Kd.R_lt (by (with_reducible repeat (first | apply Kd.jq | apply Kd.zx | apply Kd.jz));exact HO113.out)) k_ hk,Kd.fresh' (Kd.R_lt (by (with_reducible repeat (first | apply Kd.jq | apply Kd.zx | apply Kd.jz));exact HO122.out)) k_ hk,Kd.fresh' (Kd.R_lt (by (with_reducible repeat (first | apply Kd.jq | apply Kd.zx | apply Kd.jz));exact HO128.out)) k_ hk⟩));(case aO => exact (by (with_reducible repeat (first | apply Kd.jq | apply Kd.zx | apply Kd.jz));exact Kd.R_mono HO125.out (fun _ hk => ⟨hk.1.1,⟨hk.1.2.1,⟨hk.1.2.2,hk.2⟩⟩⟩)));(case aS => exact (zw (by repeat (first | (with_reducible first | exact HB.out | apply qj | apply qz | apply qk | refine qx ?_ GE101.out) | exact HB.out))));(case aL => have := LMc10.out;omega);intro v130 w31 ho hb hg hat;rw [← Ny129.out] at ho;have n0_ := qq.mk (blk_grown (g := gb101) (o := .cells #[.int .i64 a0_0,.string a0_1,.string a0_2,.slice A0_3 l0_3.length c0_3,.slice A0_4 l0_4.length c0_4] 27 (0,0)) (by (with_reducible repeat (first | refine zz ?_ _ | refine zj ?_ | refine zq ?_ _));exact BK101.out) hg (Kd.R_ne HO125.out BK101.out (by decide)));have n1_ := qq.mk (Kd.R_after (ok := (fun k_ => some k_ ≠ (.slice Ao22 t111.length co22 : Value).ownBlock ∧ some k_ ≠ (.slice Ao28 t120.length co28 : Value).ownBlock ∧ some k_ ≠ (.slice Ao32 t126.length co32 : Value).ownBlock)) (by (with_reducible repeat (first | apply Kd.jq | apply Kd.zx | apply Kd.jz));exact Kd.R_mono HO107.out (fun _ hk => ⟨⟨hk.1.1.1,⟨hk.1.1.2,hk.2⟩⟩,hk.1.2⟩)) hg hat);have n2_ := qq.mk (Kd.R_after (ok := (fun k_ => some k_ ≠ (.slice Ao18 t105.length co18 : Value).ownBlock ∧ some k_ ≠ (.slice Ao28 t120.length co28 : Value).ownBlock ∧ some k_ ≠ (.slice Ao32 t126.length co32 : Value).ownBlock)) (by (with_reducible repeat (first | apply Kd.jq | apply Kd.zx | apply Kd.jz));exact Kd.R_mono HO113.out (fun _ hk => ⟨⟨hk.1.1.1,⟨hk.1.1.2,hk.2⟩⟩,hk.1.2⟩)) hg hat);have n3_ := qq.mk (Kd.V_afterv (ok := (fun k_ => some k_ ≠ (.slice Ao18 t105.length co18 : Value).ownBlock ∧ some k_ ≠ (.slice Ao22 t111.length co22 : Value).ownBlock ∧ some k_ ≠ (.slice Ao28 t120.length co28 : Value).ownBlock ∧ some k_ ≠ (.slice Ao32 t126.length co32 : Value).ownBlock ∧ k_ ≠ gb101)) (by (with_reducible repeat (first | apply Kd.vk | apply Kd.vz | apply Kd.vv));exact Kd.V_mono HO119.out (fun _ hk => ⟨⟨hk.1.1.1,⟨hk.1.1.2.1,⟨hk.1.1.2.2.1,⟨hk.2,hk.1.1.2.2.2⟩⟩⟩⟩,hk.1.2⟩)) hg hat);have n4_ := qq.mk (Kd.R_after (ok := (fun k_ => some k_ ≠ (.slice Ao18 t105.length co18 : Value).ownBlock ∧ some k_ ≠ (.slice Ao22 t111.length co22 : Value).ownBlock ∧ some k_ ≠ (.slice Ao32 t126.length co32 : Value).ownBlock)) (by (with_reducible repeat (first | apply Kd.jq | apply Kd.zx | apply Kd.jz));exact Kd.R_mono HO122.out (fun _ hk => ⟨⟨hk.1.1.1,⟨hk.1.1.2,hk.2⟩⟩,hk.1.2⟩)) hg hat);have n5_ := qq.mk (Kd.R_after (ok := (fun k_ => some k_ ≠ (.slice Ao18 t105.length co18 : Value).ownBlock ∧ some k_ ≠ (.slice Ao22 t111.length co22 : Value).ownBlock ∧ some k_ ≠ (.slice Ao28 t120.length co28 : Value).ownBlock)) (by (with_reducible repeat (first | apply Kd.jq | apply Kd.zx | apply Kd.jz));exact Kd.R_mono HO128.out (fun _ hk => ⟨⟨hk.1.1.1.2,⟨hk.1.1.2,hk.1.2⟩⟩,hk.2⟩)) hg hat);have n6_ := qq.mk (hb);have n7_ := qq.mk (ho);clear BK101;clear HO107;clear HO113;clear HO119;clear HO122;clear HO128;clear HB;clear HO125;have BK101 := n0_;have HO107 := n1_;have HO113 := n2_;have HO119 := n3_;have HO122 := n4_;have HO128 := n5_;have HB := n6_;have HO131 := n7_;clear n0_ n1_ n2_ n3_ n4_ n5_ n6_ n7_;clear ho hb hg hat;obtain ⟨Ao33,co33,eo33⟩ := Kd.R_slice HO131.out;subst eo33) | ((with_reducible refine jv (f := 116) rfl ?_);refine goesL_ (some 27) rfl rfl Try.func116 (by kernel_rfl) rfl #[.slice Ao33 y129.length co33] rfl (by (try simp only [List.map_toArray,List.map_cons,List.map_nil]);first | done | rfl | (simp only [List.length_drop,List.length_take];rfl)) ?_;(with_reducible refine (qwq.calls k _ _ y129 t132 _ ?side1 ?side2 A11.out).mono ?_);(case side1 => repeat (first | exact (Kd.R_reads' HO131.out).2.2 | (with_reducible refine Kd.C_alloc ?_ _) | (with_reducible refine Kd.C_drewN ?_ _) | (with_reducible refine Kd.C_drew ?_)));(case side2 => exact (Kd.R_reads' HO131.out).2.1);rintro e w34 ⟨v133,rfl,ho0,hb⟩;refine ⟨_,rfl,?_⟩;have n0_ := qq.mk (Kd.R_elder' (by (with_reducible repeat (first | apply Kd.jq | apply Kd.zx | apply Kd.jz));exact HO107.out) (Kd.R_base ho0) hb);have n1_ := qq.mk (Kd.R_elder' (by (with_reducible repeat (first | apply Kd.jq | apply Kd.zx | apply Kd.jz));exact HO113.out) (Kd.R_base ho0) hb);have n2_ := qq.mk (Kd.V_elder' (by (with_reducible repeat (first | apply Kd.vk | apply Kd.vz | apply Kd.vv));exact HO119.out) (Kd.R_base ho0) hb);have n3_ := qq.mk (Kd.R_elder' (by (with_reducible repeat (first | apply Kd.jq | apply Kd.zx | apply Kd.jz));exact HO122.out) (Kd.R_base ho0) hb);have n4_ := qq.mk (Kd.R_elder' (by (with_reducible repeat (first | apply Kd.jq | apply Kd.zx | apply Kd.jz));exact HO128.out) (Kd.R_base ho0) hb);have n5_ := qq.mk (Kd.R_elder' (by (with_reducible repeat (first | apply Kd.jq | apply Kd.zx | apply Kd.jz));exact HO131.out) (Kd.R_base ho0) hb);have n6_ := qq.mk (Kd.R_lower (Kd.R_new' (Kd.R_new' (Kd.R_new' (Kd.R_new' (Kd.R_new' ho0 (Kd.R_lt (by (with_reducible repeat (first | apply Kd.jq | apply Kd.zx | apply Kd.jz));exact HO107.out))) (Kd.R_lt (by (with_reducible repeat (first | apply Kd.jq | apply Kd.zx | apply Kd.jz));exact HO113.out))) (Kd.R_lt (by (with_reducible repeat (first | apply Kd.jq | apply Kd.zx | apply Kd.jz));exact HO122.out))) (Kd.R_lt (by (with_reducible repeat (first | apply Kd.jq | apply Kd.zx | apply Kd.jz));exact HO128.out))) (Kd.R_lt (by (with_reducible repeat (first | apply Kd.jq | apply Kd.zx | apply Kd.jz));exact HO131.out))) (zw (by repeat (first | (with_reducible first | exact HB.out | apply qj | apply qz | apply qk | refine qx ?_ GE101.out) | exact HB.out))));have n7_ := qq.mk (vw (g := gb101) (o := .cells #[.int .i64 a0_0,.string a0_1,.string a0_2,.slice A0_3 l0_3.length c0_3,.slice A0_4 l0_4.length c0_4] 27 (0,0)) (by (with_reducible repeat (first | refine zz ?_ _ | refine zj ?_ | refine zq ?_ _));exact BK101.out) hb);have n8_ := qq.mk (zv (by repeat (first | (with_reducible first | exact HB.out | apply qj | apply qz | apply qk | refine qx ?_ GE101.out) | exact HB.out)) hb);clear HO107;clear HO113;clear HO119;clear HO122;clear HO128;clear HO131;clear BK101;clear HB;have HO107 := n0_;have HO113 := n1_;have HO119 := n2_;have HO122 := n3_;have HO128 := n4_;have HO131 := n5_;have HO134 := n6_;have BK101 := n7_;have HB := n8_;clear n0_ n1_ n2_ n3_ n4_ n5_ n6_ n7_ n8_;(try clear hb);(try clear hb2);(try clear hk);(try clear hi);(try clear ho0)))
     go_ret
     exact ⟨_,by first | rfl | (simp [*,jk,jj] <;> rfl),by (with_reducible repeat (first | apply Kd.jq | apply Kd.zx | apply Kd.jz));exact Kd.R_mono HO134.out (fun _ hk => trivial),by repeat (first | (with_reducible first | exact HB.out | apply qj | apply qz | apply qk | refine qx ?_ GE101.out) | exact HB.out)⟩
    ·rw [if_neg c10] at H
     exact absurd H (by simp)
   ·rw [if_neg c8] at H
    exact absurd H (by simp)
  ·rw [if_neg c5] at H
   exact absurd H (by simp)
 ·rw [if_neg c3] at H
  exact absurd H (by simp)
end Go.Proofs.Ytipdkendfcopiaa.Pr
namespace Go.Proofs.Ytipdkendfcopiaa.Pr
open Go.RowKit Go.Proofs.YtipdkendfcopiaaW.PrintWords Go.Proofs.YtipdkendfcopiaaW.PrintLast Go.Proofs.YtipdkendfcopiaaW.PrintMore
attribute [local go_sem] max2_int min2_int max_two min_two max_three min_three max_four min_four
set_option linter.unusedVariables false
set_option linter.unusedSimpArgs false
def qvj.l0 : Nat → List (List Int) → List (S27) → Int → Int → Option ((List (List Int)) × Bool)
 | 0,_,_,_,_ => none
 | k + 1,x4,x10,x11,x12 => if x12 < x11 then (if 0 ≤ x12 then (if x12 < (x10.length : Int) then ((qkj.f k ((wj x10 x12).f0) ((wj x10 x12).f1) ((wj x10 x12).f2) ((wj x10 x12).f3) ((wj x10 x12).f4)).bind fun t103 => (if t103 = true then ((qvz.f k ((wj x10 x12).f0) ((wj x10 x12).f1) ((wj x10 x12).f2) ((wj x10 x12).f3) ((wj x10 x12).f4)).bind fun t104 => (if x4.length < 5864062014805 then (qvj.l0 k (x4 ++ [t104]) x10 x11 (wrap64 (x12 + 1))) else (none))) else (some (([] : List (List Int)),false)))) else (none)) else (none)) else (some (x4,true))
def qvj.f (k : Nat) (l0 : List (S27)) : Option ((List (List Int)) × Bool) := if (l0.length : Int) > 200 then (some (([] : List (List Int)),false)) else (qvj.l0 k ([] : List (List Int)) l0 (l0.length : Int) 0)
set_option maxHeartbeats 8000000 in
set_option maxRecDepth 100000 in
theorem qvj.calls (k : Nat) (A0 : Option Addr) (c0 : Nat) (l0 : List (S27)) (r1 : List (List Int)) (r2 : Bool) (w : World) (hr0 : Kd.C k27 w A0 l0.length l0) (hc0 : l0.length ≤ c0) (h : qvj.f k l0 = some (r1,r2)) :
  Calls Try.prog 80 #[.slice A0 l0.length c0] w fun e w' => ∃ v0_ : Value,e = .returned (.tuple #[v0_,.bool r2]) ∧ Kd.S (Kd.slice 5 (Kd.int .u8)) 22 w' w.heap.size (fun _ => True) v0_ r1 ∧ Below w.heap.size w w' := by
 have hu27 := Try.underlying27
 have HR0 := qq.mk hr0
 have HC0 := qq.mk hc0
 clear hr0 hc0
 have HB := qq.mk (Below.refl w.heap.size w)
 have H : (if (l0.length : Int) > 200 then (some (([] : List (List Int)),false)) else (qvj.l0 k ([] : List (List Int)) l0 (l0.length : Int) 0)) = some (r1,r2) := h
 clear h
 by_cases c2 : (l0.length : Int) > 200
 ·rw [if_pos c2] at H
  have c2b0 : decide (200 < (l0.length : Int)) = true := decide_eq_true c2
  have c2b1 : decide (200 < l0.length) = true := decide_eq_true (by omega)
  clear c2
  simp only [Option.some.injEq,Prod.mk.injEq] at H
  obtain ⟨rfl,rfl⟩ := H
  go_enter Try.func80,Try.ntmps80
  go_wp2
  go_ret2
  exact ⟨_,by first | rfl | (simp [*,jk,jj] <;> rfl),by first | exact Kd.S_nil _ _ _ _ _ | exact Kd.N_nil _ _ _ _ _ | exact Kd.V_nil _ _ _ _ _ | exact Kd.Q_nil _ _ _ _ _ | exact Kd.R_nil _ _ _ _ _,by repeat (first | (with_reducible first | exact HB.out | apply qj | apply qz | apply qk) | exact HB.out)⟩
 ·rw [if_neg c2] at H
  have c2b0 : decide (200 < (l0.length : Int)) = false := decide_eq_false c2
  have c2b1 : decide (200 < l0.length) = false := decide_eq_false (by omega)
  clear c2
  have H' := qq.mk H
  clear H
  go_enter Try.func80,Try.ntmps80
  go_wp2
  go_loopg [4,12] k (fun kq v4 v12 w' => ∃ (x4_1 : List (List Int)) (x12_1 : Int),v12 = .int .i64 x12_1 ∧ qq (qvj.l0 kq x4_1 l0 (l0.length : Int) x12_1 = some (r1,r2)) ∧ qq (kq ≤ k) ∧ qq (Kd.S (Kd.slice 5 (Kd.int .u8)) 22 w' w.heap.size (fun _ => True) v4 x4_1) ∧ qq (Below w.heap.size w w'))
  case atStart => exact ⟨(([] : List (List Int))),(0),(by first | rfl | (simp;done) | (simp [*];done)),H',⟨Nat.le_refl _⟩,⟨by first | exact Kd.S_nil _ _ _ _ _ | exact Kd.N_nil _ _ _ _ _ | exact Kd.V_nil _ _ _ _ _ | exact Kd.Q_nil _ _ _ _ _ | exact Kd.R_nil _ _ _ _ _⟩,⟨by repeat (first | (with_reducible first | exact HB.out | apply qj | apply qz | apply qk) | exact HB.out)⟩⟩
  case round =>
   clear H'
   try clear c2
   try clear c2b0
   try clear c2b1
   try clear p2
   obtain ⟨x4_1,x12_1,rfl,HA,HK1,HO_4,HB⟩ := hrel
   cases gk with
   | zero => exact absurd HA.out (by simp [qvj.l0])
   | succ k1 =>
    have H := HA.out
    clear HA
    simp only [qvj.l0] at H
    by_cases c3 : x12_1 < (l0.length : Int)
    ·rw [if_pos c3] at H
     have c3b0 : decide (x12_1 < (l0.length : Int)) = true := decide_eq_true c3
     clear c3
     by_cases c4 : 0 ≤ x12_1
     ·rw [if_pos c4] at H
      have c4b0 : decide (0 ≤ x12_1) = true := decide_eq_true c4
      clear c4
      by_cases c5 : x12_1 < (l0.length : Int)
      ·rw [if_pos c5] at H
       have c5b0 : decide (x12_1 < (l0.length : Int)) = true := decide_eq_true c5
       clear c5
       replace H := Option.bind_eq_some_iff.mp H
       obtain ⟨t103,A60,H⟩ := H
       replace H : (if t103 = true then ((qvz.f k1 ((wj l0 x12_1).f0) ((wj l0 x12_1).f1) ((wj l0 x12_1).f2) ((wj l0 x12_1).f3) ((wj l0 x12_1).f4)).bind fun t104 => (if x4_1.length < 5864062014805 then (qvj.l0 k1 (x4_1 ++ [t104]) l0 (l0.length : Int) (wrap64 (x12_1 + 1))) else (none))) else (some (([] : List (List Int)),false))) = some (r1,r2) := H
       have A6 := qq.mk A60
       clear A60
       by_cases c7 : t103 = true
       ·subst c7
        have H1 : ((qvz.f k1 ((wj l0 x12_1).f0) ((wj l0 x12_1).f1) ((wj l0 x12_1).f2) ((wj l0 x12_1).f3) ((wj l0 x12_1).f4)).bind fun t104 => (if x4_1.length < 5864062014805 then (qvj.l0 k1 (x4_1 ++ [t104]) l0 (l0.length : Int) (wrap64 (x12_1 + 1))) else (none))) = some (r1,r2) := by rw [if_pos rfl] at H;exact H
        clear H
        have H := H1
        clear H1
        replace H := Option.bind_eq_some_iff.mp H
        obtain ⟨t104,A80,H⟩ := H
        replace H : (if x4_1.length < 5864062014805 then (qvj.l0 k1 (x4_1 ++ [t104]) l0 (l0.length : Int) (wrap64 (x12_1 + 1))) else (none)) = some (r1,r2) := H
        have A8 := qq.mk A80
        clear A80
        by_cases c9 : x4_1.length < 5864062014805
        ·rw [if_pos c9] at H
         have LMc9 := qq.mk c9
         clear c9
         obtain ⟨y107,hy107⟩ : ∃ y_ : List (List Int),y_ = (x4_1 ++ [t104]) := ⟨_,rfl⟩
         replace H : (qvj.l0 k1 y107 l0 (l0.length : Int) (wrap64 (x12_1 + 1))) = some (r1,r2) := by first | (rw [hy107];with_reducible exact H) | (have H2_ := (Option.bind_some _ _).symm.trans H;rw [hy107];with_reducible exact H2_) | (have H2_ := (Option.bind_some _ _).symm.trans H;with_reducible exact H2_) | with_reducible exact H | (rw [hy107];exact H) | exact H
         have Ny107 := qq.mk hy107
         clear hy107
         have H' := qq.mk H
         clear H
         have p101 : 0 ≤ (x12_1 : Int) := of_decide_eq_true (by assumption)
         have q101 : x12_1 < (l0.length : Int) := of_decide_eq_true (by assumption)
         obtain ⟨ad101,A101_3,c101_3,A101_4,c101_4,e101,hx101_0,hx101_1,hx101_2,hx101_3,hx101_4,hl101_3,hi101_3,hl101_4,hi101_4⟩ := at_T27 HR0.out x12_1 p101 q101
         cases e101
         replace hx101_0 := (HB.out.cell (World.block_lt_of_cell? w _ hx101_0)).trans hx101_0
         replace hx101_1 := (HB.out.cell (World.block_lt_of_cell? w _ hx101_1)).trans hx101_1
         replace hx101_2 := (HB.out.cell (World.block_lt_of_cell? w _ hx101_2)).trans hx101_2
         replace hx101_3 := (HB.out.cell (World.block_lt_of_cell? w _ hx101_3)).trans hx101_3
         replace hx101_4 := (HB.out.cell (World.block_lt_of_cell? w _ hx101_4)).trans hx101_4
         have HR101_3 := qq.mk hi101_3
         have HC101_3 := qq.mk hl101_3
         clear hi101_3 hl101_3
         have HR101_4 := qq.mk hi101_4
         have HC101_4 := qq.mk hl101_4
         clear hi101_4 hl101_4
         replace p101 := eq_true p101
         replace q101 := eq_true q101
         go_wp2_with (first | ((with_reducible refine gate_dst (N := 6) rfl ?_);refine box_event ?hg (N := 6) ?hd (cs := #[.int .i64 0,.string (⟨#[]⟩ : ByteArray),.string (⟨#[]⟩ : ByteArray),.slice none 0 0,.slice none 0 0]) (t := 27) ?hr ?_;(case hd => rfl);(case hg => rfl);(case hr => first | (go_simp;done) | (go_simp;rfl));intro gb102 hg w10 hbox hb;have n0_ := qq.mk (Kd.S_below (by (with_reducible repeat (first | apply Kd.kx | apply Kd.kw | apply Kd.vq));exact HO_4.out) hb);have n1_ := qq.mk (zv (by repeat (first | (with_reducible first | exact HB.out | apply qj | apply qz | apply qk) | exact HB.out)) hb);have n2_ := qq.mk (hbox);have n3_ := qq.mk ((by rw [hg];exact (zw (by repeat (first | (with_reducible first | exact HB.out | apply qj | apply qz | apply qk) | exact HB.out))) : w.heap.size ≤ gb102));have n4_ := qq.mk ((by rw [hg];exact (zw (by repeat (first | (with_reducible first | exact HB.out | apply qj | apply qz | apply qk) | exact HB.out))) : w.heap.size ≤ gb102));clear HO_4;clear HB;have HO_4 := n0_;have HB := n1_;have BK102 := n2_;have GW102 := n3_;have GE102 := n4_;clear n0_ n1_ n2_ n3_ n4_;clear hb hbox hg;have hcz11_0 : w10.cell? ⟨gb102,0,none⟩ = some (.int .i64 0) := (qw BK102.out 0).trans rfl;have hcz11_1 : w10.cell? ⟨gb102,1,none⟩ = some (.string (⟨#[]⟩ : ByteArray)) := (qw BK102.out 1).trans rfl;have hcz11_2 : w10.cell? ⟨gb102,2,none⟩ = some (.string (⟨#[]⟩ : ByteArray)) := (qw BK102.out 2).trans rfl;have hcz11_3 : w10.cell? ⟨gb102,3,none⟩ = some (.slice none 0 0) := (qw BK102.out 3).trans rfl;have hcz11_4 : w10.cell? ⟨gb102,4,none⟩ = some (.slice none 0 0) := (qw BK102.out 4).trans rfl;have hfz11_0 := qv BK102.out 0;have hfz11_1 := qv BK102.out 1;have hfz11_2 := qv BK102.out 2;have hfz11_3 := qv BK102.out 3;have hfz11_4 := qv BK102.out 4) | ((with_reducible refine jv (f := 18) rfl ?_);refine goesL_ (some 17) rfl rfl Try.func18 (by kernel_rfl) rfl #[.agg #[.int .i64 ((wj l0 x12_1).f0),.string ((wj l0 x12_1).f1),.string ((wj l0 x12_1).f2),.slice A101_3 ((wj l0 x12_1).f3).length c101_3,.slice A101_4 ((wj l0 x12_1).f4).length c101_4]] rfl (by (try simp only [List.map_toArray,List.map_cons,List.map_nil]);first | done | rfl | (simp only [List.length_drop,List.length_take];rfl)) ?_;(with_reducible refine (qkj.calls k1 ((wj l0 x12_1).f0) ((wj l0 x12_1).f1) ((wj l0 x12_1).f2) _ _ ((wj l0 x12_1).f3) _ _ ((wj l0 x12_1).f4) true _ ?side1 ?side2 ?side3 ?side4 A6.out).mono ?_);(case side1 => exact Kd.C_below HR101_3.out (by repeat (first | (with_reducible first | exact HB.out | apply qj | apply qz | apply qk | refine qx ?_ GE102.out) | exact HB.out)));(case side2 => exact HC101_3.out);(case side3 => exact Kd.C_below HR101_4.out (by repeat (first | (with_reducible first | exact HB.out | apply qj | apply qz | apply qk | refine qx ?_ GE102.out) | exact HB.out)));(case side4 => exact HC101_4.out);rintro e w12 ⟨rfl,hb⟩;refine ⟨_,rfl,?_⟩;have n0_ := qq.mk (Kd.S_below (by (with_reducible repeat (first | apply Kd.kx | apply Kd.kw | apply Kd.vq));exact (Kd.S_mono (Kd.S_far (p := ⟨gb102,4,none⟩) (Kd.S_far (p := ⟨gb102,3,none⟩) (Kd.S_far (p := ⟨gb102,2,none⟩) (Kd.S_far (p := ⟨gb102,1,none⟩) (Kd.S_far (p := ⟨gb102,0,none⟩) (Kd.S_types HO_4.out BK102.out (by decide)) (fun _ hk => hk.2) (.int .i64 ((wj l0 x12_1).f0))) (fun _ hk => hk.2) (.string ((wj l0 x12_1).f1))) (fun _ hk => hk.2) (.string ((wj l0 x12_1).f2))) (fun _ hk => hk.2) (.slice A101_3 ((wj l0 x12_1).f3).length c101_3)) (fun _ hk => hk.2) (.slice A101_4 ((wj l0 x12_1).f4).length c101_4)) (fun _ h_ => h_.1))) hb);have n1_ := qq.mk (vw (g := gb102) (o := .cells #[.int .i64 ((wj l0 x12_1).f0),.string ((wj l0 x12_1).f1),.string ((wj l0 x12_1).f2),.slice A101_3 ((wj l0 x12_1).f3).length c101_3,.slice A101_4 ((wj l0 x12_1).f4).length c101_4] 27 (0,0)) (by (with_reducible repeat (first | refine zz ?_ _ | refine zj ?_ | refine zq ?_ _));refine blk_put (cs := #[.int .i64 ((wj l0 x12_1).f0),.string ((wj l0 x12_1).f1),.string ((wj l0 x12_1).f2),.slice A101_3 ((wj l0 x12_1).f3).length c101_3,.slice none 0 0]) ?_ 4 _ rfl;(with_reducible repeat (first | refine zz ?_ _ | refine zj ?_ | refine zq ?_ _));refine blk_put (cs := #[.int .i64 ((wj l0 x12_1).f0),.string ((wj l0 x12_1).f1),.string ((wj l0 x12_1).f2),.slice none 0 0,.slice none 0 0]) ?_ 3 _ rfl;(with_reducible repeat (first | refine zz ?_ _ | refine zj ?_ | refine zq ?_ _));refine blk_put (cs := #[.int .i64 ((wj l0 x12_1).f0),.string ((wj l0 x12_1).f1),.string (⟨#[]⟩ : ByteArray),.slice none 0 0,.slice none 0 0]) ?_ 2 _ rfl;(with_reducible repeat (first | refine zz ?_ _ | refine zj ?_ | refine zq ?_ _));refine blk_put (cs := #[.int .i64 ((wj l0 x12_1).f0),.string (⟨#[]⟩ : ByteArray),.string (⟨#[]⟩ : ByteArray),.slice none 0 0,.slice none 0 0]) ?_ 1 _ rfl;(with_reducible repeat (first | refine zz ?_ _ | refine zj ?_ | refine zq ?_ _));refine blk_put (cs := #[.int .i64 0,.string (⟨#[]⟩ : ByteArray),.string (⟨#[]⟩ : ByteArray),.slice none 0 0,.slice none 0 0]) ?_ 0 _ rfl;(with_reducible repeat (first | refine zz ?_ _ | refine zj ?_ | refine zq ?_ _));exact BK102.out) hb);have n2_ := qq.mk (zv (by repeat (first | (with_reducible first | exact HB.out | apply qj | apply qz | apply qk | refine qx ?_ GE102.out) | exact HB.out)) hb);clear HO_4;clear BK102;clear HB;have HO_4 := n0_;have BK102 := n1_;have HB := n2_;clear n0_ n1_ n2_;(try clear hb);(try clear hb2);(try clear hk);(try clear hi);have hcz13_0 : w12.cell? ⟨gb102,0,none⟩ = some (.int .i64 ((wj l0 x12_1).f0)) := (qw BK102.out 0).trans rfl;have hcz13_1 : w12.cell? ⟨gb102,1,none⟩ = some (.string ((wj l0 x12_1).f1)) := (qw BK102.out 1).trans rfl;have hcz13_2 : w12.cell? ⟨gb102,2,none⟩ = some (.string ((wj l0 x12_1).f2)) := (qw BK102.out 2).trans rfl;have hcz13_3 : w12.cell? ⟨gb102,3,none⟩ = some (.slice A101_3 ((wj l0 x12_1).f3).length c101_3) := (qw BK102.out 3).trans rfl;have hcz13_4 : w12.cell? ⟨gb102,4,none⟩ = some (.slice A101_4 ((wj l0 x12_1).f4).length c101_4) := (qw BK102.out 4).trans rfl;have hfz13_0 := qv BK102.out 0;have hfz13_1 := qv BK102.out 1;have hfz13_2 := qv BK102.out 2;have hfz13_3 := qv BK102.out 3;have hfz13_4 := qv BK102.out 4) | ((with_reducible refine jv (f := 76) rfl ?_);refine goesL_ (some 21) rfl rfl Try.func76 (by kernel_rfl) rfl #[.agg #[.int .i64 ((wj l0 x12_1).f0),.string ((wj l0 x12_1).f1),.string ((wj l0 x12_1).f2),.slice A101_3 ((wj l0 x12_1).f3).length c101_3,.slice A101_4 ((wj l0 x12_1).f4).length c101_4]] rfl (by (try simp only [List.map_toArray,List.map_cons,List.map_nil]);first | done | rfl | (simp only [List.length_drop,List.length_take];rfl)) ?_;(with_reducible refine (qvz.calls k1 ((wj l0 x12_1).f0) ((wj l0 x12_1).f1) ((wj l0 x12_1).f2) _ _ ((wj l0 x12_1).f3) _ _ ((wj l0 x12_1).f4) t104 _ ?side1 ?side2 ?side3 ?side4 A8.out).mono ?_);(case side1 => repeat (first | exact (Kd.C_below HR101_3.out HB.out) | (with_reducible refine Kd.C_alloc ?_ _) | (with_reducible refine Kd.C_drewN ?_ _) | (with_reducible refine Kd.C_drew ?_)));(case side2 => exact HC101_3.out);(case side3 => repeat (first | exact (Kd.C_below HR101_4.out HB.out) | (with_reducible refine Kd.C_alloc ?_ _) | (with_reducible refine Kd.C_drewN ?_ _) | (with_reducible refine Kd.C_drew ?_)));(case side4 => exact HC101_4.out);rintro e w14 ⟨v105,rfl,ho0,hb⟩;refine ⟨_,rfl,?_⟩;have n0_ := qq.mk (Kd.S_elder' (by (with_reducible repeat (first | apply Kd.kx | apply Kd.kw | apply Kd.vq));exact HO_4.out) (Kd.R_base ho0) hb);have n1_ := qq.mk (Kd.R_lower ho0 (zw (by repeat (first | (with_reducible first | exact HB.out | apply qj | apply qz | apply qk | refine qx ?_ GE102.out) | exact HB.out))));have n2_ := qq.mk (vw (g := gb102) (o := .cells #[.int .i64 ((wj l0 x12_1).f0),.string ((wj l0 x12_1).f1),.string ((wj l0 x12_1).f2),.slice A101_3 ((wj l0 x12_1).f3).length c101_3,.slice A101_4 ((wj l0 x12_1).f4).length c101_4] 27 (0,0)) (by (with_reducible repeat (first | refine zz ?_ _ | refine zj ?_ | refine zq ?_ _));exact BK102.out) hb);have n3_ := qq.mk (zv (by repeat (first | (with_reducible first | exact HB.out | apply qj | apply qz | apply qk | refine qx ?_ GE102.out) | exact HB.out)) hb);clear HO_4;clear BK102;clear HB;have HO_4 := n0_;have HO106 := n1_;have BK102 := n2_;have HB := n3_;clear n0_ n1_ n2_ n3_;(try clear hb);(try clear hb2);(try clear hk);(try clear hi);(try clear ho0);obtain ⟨Ao16,co16,eo16⟩ := Kd.R_slice HO106.out;subst eo16) | ((with_reducible refine gate_builtin (b := .append) (xs := #[.tmp 19,.tmp 22]) rfl ?_);at_builtin;refine Kd.S_append (Kd.slice 5 (Kd.int .u8)) (w0 := w) w.heap.size rfl (.tmp 19) (.tmp 22) 44 22 (.slice none 0 0) 24 rfl Try.underlying44 info22 rfl (by decide) (by omega) u4 x4_1 t104 [.slice Ao16 t104.length co16] (fun _ => True) (fun k_ => some k_ = (.slice Ao16 t104.length co16 : Value).ownBlock) rfl rfl ?aP (fun k_ hk_ => ((Kd.R_mono (ok' := fun k_ => ((fun _ => True)) k_ ∧ some k_ ≠ (u4 : Value).ownBlock) (Kd.R_apart' (HO106.out) (Kd.S_typed HO_4.out) (by decide)) (fun k_ hk => ⟨trivial,hk.2⟩))).1 k_ hk_.symm) ?aF ?aO ?aB ?aS ?aL ?_;(case aP => exact Kd.M_row (Kd.R_mono (Kd.R_tight rfl (Kd.R_mono (ok' := fun k_ => ((fun _ => True)) k_ ∧ some k_ ≠ (u4 : Value).ownBlock) (Kd.R_apart' (HO106.out) (Kd.S_typed HO_4.out) (by decide)) (fun k_ hk => ⟨trivial,hk.2⟩))) (fun _ h_ => h_)));(case aB => exact (by repeat (first | (with_reducible first | exact HB.out | apply qj | apply qz | apply qk | refine qx ?_ GE102.out) | exact HB.out)));(case aF => exact (fun _ _ => trivial));(case aO => exact (by (with_reducible repeat (first | apply Kd.kx | apply Kd.kw | apply Kd.vq));exact Kd.S_mono HO_4.out (fun k_ hk => ⟨trivial,fun e_ => hk.2 e_⟩)));(case aS => exact (zw (by repeat (first | (with_reducible first | exact HB.out | apply qj | apply qz | apply qk | refine qx ?_ GE102.out) | exact HB.out))));(case aL => have := LMc9.out;omega);intro v108 w15 ho hb hg hat;rw [← Ny107.out] at ho;have n0_ := qq.mk (blk_grown (g := gb102) (o := .cells #[.int .i64 ((wj l0 x12_1).f0),.string ((wj l0 x12_1).f1),.string ((wj l0 x12_1).f2),.slice A101_3 ((wj l0 x12_1).f3).length c101_3,.slice A101_4 ((wj l0 x12_1).f4).length c101_4] 27 (0,0)) (by (with_reducible repeat (first | refine zz ?_ _ | refine zj ?_ | refine zq ?_ _));exact BK102.out) hg (Kd.S_ne HO_4.out BK102.out (by decide)));have n1_ := qq.mk (hb);have n2_ := qq.mk (ho);clear BK102;clear HB;clear HO_4;clear HO106;have BK102 := n0_;have HB := n1_;have HO109 := n2_;clear n0_ n1_ n2_;clear ho hb hg hat))
         go_roundg k1
         case measure => have := HK1.out;omega
         case rel => exact ⟨(y107),(wrap64 (x12_1 + 1)),(by first | rfl | (simp;done) | (simp [*];done)),H',⟨by have := HK1.out;omega⟩,⟨by (with_reducible repeat (first | apply Kd.kx | apply Kd.kw | apply Kd.vq));exact HO109.out⟩,⟨by repeat (first | (with_reducible first | exact HB.out | apply qj | apply qz | apply qk | refine qx ?_ GE102.out) | exact HB.out)⟩⟩
        ·rw [if_neg c9] at H
         exact absurd H (by simp)
       ·replace c7 := Bool.eq_false_iff.mpr c7
        subst c7
        have H1 : (some (([] : List (List Int)),false)) = some (r1,r2) := by rw [if_neg (show ¬ (false = true) by decide)] at H;exact H
        clear H
        have H := H1
        clear H1
        simp only [Option.some.injEq,Prod.mk.injEq] at H
        obtain ⟨rfl,rfl⟩ := H
        have p101 : 0 ≤ (x12_1 : Int) := of_decide_eq_true (by assumption)
        have q101 : x12_1 < (l0.length : Int) := of_decide_eq_true (by assumption)
        obtain ⟨ad101,A101_3,c101_3,A101_4,c101_4,e101,hx101_0,hx101_1,hx101_2,hx101_3,hx101_4,hl101_3,hi101_3,hl101_4,hi101_4⟩ := at_T27 HR0.out x12_1 p101 q101
        cases e101
        replace hx101_0 := (HB.out.cell (World.block_lt_of_cell? w _ hx101_0)).trans hx101_0
        replace hx101_1 := (HB.out.cell (World.block_lt_of_cell? w _ hx101_1)).trans hx101_1
        replace hx101_2 := (HB.out.cell (World.block_lt_of_cell? w _ hx101_2)).trans hx101_2
        replace hx101_3 := (HB.out.cell (World.block_lt_of_cell? w _ hx101_3)).trans hx101_3
        replace hx101_4 := (HB.out.cell (World.block_lt_of_cell? w _ hx101_4)).trans hx101_4
        have HR101_3 := qq.mk hi101_3
        have HC101_3 := qq.mk hl101_3
        clear hi101_3 hl101_3
        have HR101_4 := qq.mk hi101_4
        have HC101_4 := qq.mk hl101_4
        clear hi101_4 hl101_4
        replace p101 := eq_true p101
        replace q101 := eq_true q101
        go_wp2_with (first | ((with_reducible refine gate_dst (N := 6) rfl ?_);refine box_event ?hg (N := 6) ?hd (cs := #[.int .i64 0,.string (⟨#[]⟩ : ByteArray),.string (⟨#[]⟩ : ByteArray),.slice none 0 0,.slice none 0 0]) (t := 27) ?hr ?_;(case hd => rfl);(case hg => rfl);(case hr => first | (go_simp;done) | (go_simp;rfl));intro gb102 hg w17 hbox hb;have n0_ := qq.mk (Kd.S_below (by (with_reducible repeat (first | apply Kd.kx | apply Kd.kw | apply Kd.vq));exact HO_4.out) hb);have n1_ := qq.mk (zv (by repeat (first | (with_reducible first | exact HB.out | apply qj | apply qz | apply qk) | exact HB.out)) hb);have n2_ := qq.mk (hbox);have n3_ := qq.mk ((by rw [hg];exact (zw (by repeat (first | (with_reducible first | exact HB.out | apply qj | apply qz | apply qk) | exact HB.out))) : w.heap.size ≤ gb102));have n4_ := qq.mk ((by rw [hg];exact (zw (by repeat (first | (with_reducible first | exact HB.out | apply qj | apply qz | apply qk) | exact HB.out))) : w.heap.size ≤ gb102));clear HO_4;clear HB;have HO_4 := n0_;have HB := n1_;have BK102 := n2_;have GW102 := n3_;have GE102 := n4_;clear n0_ n1_ n2_ n3_ n4_;clear hb hbox hg;have hcz18_0 : w17.cell? ⟨gb102,0,none⟩ = some (.int .i64 0) := (qw BK102.out 0).trans rfl;have hcz18_1 : w17.cell? ⟨gb102,1,none⟩ = some (.string (⟨#[]⟩ : ByteArray)) := (qw BK102.out 1).trans rfl;have hcz18_2 : w17.cell? ⟨gb102,2,none⟩ = some (.string (⟨#[]⟩ : ByteArray)) := (qw BK102.out 2).trans rfl;have hcz18_3 : w17.cell? ⟨gb102,3,none⟩ = some (.slice none 0 0) := (qw BK102.out 3).trans rfl;have hcz18_4 : w17.cell? ⟨gb102,4,none⟩ = some (.slice none 0 0) := (qw BK102.out 4).trans rfl;have hfz18_0 := qv BK102.out 0;have hfz18_1 := qv BK102.out 1;have hfz18_2 := qv BK102.out 2;have hfz18_3 := qv BK102.out 3;have hfz18_4 := qv BK102.out 4) | ((with_reducible refine jv (f := 18) rfl ?_);refine goesL_ (some 17) rfl rfl Try.func18 (by kernel_rfl) rfl #[.agg #[.int .i64 ((wj l0 x12_1).f0),.string ((wj l0 x12_1).f1),.string ((wj l0 x12_1).f2),.slice A101_3 ((wj l0 x12_1).f3).length c101_3,.slice A101_4 ((wj l0 x12_1).f4).length c101_4]] rfl (by (try simp only [List.map_toArray,List.map_cons,List.map_nil]);first | done | rfl | (simp only [List.length_drop,List.length_take];rfl)) ?_;(with_reducible refine (qkj.calls k1 ((wj l0 x12_1).f0) ((wj l0 x12_1).f1) ((wj l0 x12_1).f2) _ _ ((wj l0 x12_1).f3) _ _ ((wj l0 x12_1).f4) false _ ?side1 ?side2 ?side3 ?side4 A6.out).mono ?_);(case side1 => exact Kd.C_below HR101_3.out (by repeat (first | (with_reducible first | exact HB.out | apply qj | apply qz | apply qk | refine qx ?_ GE102.out) | exact HB.out)));(case side2 => exact HC101_3.out);(case side3 => exact Kd.C_below HR101_4.out (by repeat (first | (with_reducible first | exact HB.out | apply qj | apply qz | apply qk | refine qx ?_ GE102.out) | exact HB.out)));(case side4 => exact HC101_4.out);rintro e w19 ⟨rfl,hb⟩;refine ⟨_,rfl,?_⟩;have n0_ := qq.mk (Kd.S_below (by (with_reducible repeat (first | apply Kd.kx | apply Kd.kw | apply Kd.vq));exact (Kd.S_mono (Kd.S_far (p := ⟨gb102,4,none⟩) (Kd.S_far (p := ⟨gb102,3,none⟩) (Kd.S_far (p := ⟨gb102,2,none⟩) (Kd.S_far (p := ⟨gb102,1,none⟩) (Kd.S_far (p := ⟨gb102,0,none⟩) (Kd.S_types HO_4.out BK102.out (by decide)) (fun _ hk => hk.2) (.int .i64 ((wj l0 x12_1).f0))) (fun _ hk => hk.2) (.string ((wj l0 x12_1).f1))) (fun _ hk => hk.2) (.string ((wj l0 x12_1).f2))) (fun _ hk => hk.2) (.slice A101_3 ((wj l0 x12_1).f3).length c101_3)) (fun _ hk => hk.2) (.slice A101_4 ((wj l0 x12_1).f4).length c101_4)) (fun _ h_ => h_.1))) hb);have n1_ := qq.mk (vw (g := gb102) (o := .cells #[.int .i64 ((wj l0 x12_1).f0),.string ((wj l0 x12_1).f1),.string ((wj l0 x12_1).f2),.slice A101_3 ((wj l0 x12_1).f3).length c101_3,.slice A101_4 ((wj l0 x12_1).f4).length c101_4] 27 (0,0)) (by (with_reducible repeat (first | refine zz ?_ _ | refine zj ?_ | refine zq ?_ _));refine blk_put (cs := #[.int .i64 ((wj l0 x12_1).f0),.string ((wj l0 x12_1).f1),.string ((wj l0 x12_1).f2),.slice A101_3 ((wj l0 x12_1).f3).length c101_3,.slice none 0 0]) ?_ 4 _ rfl;(with_reducible repeat (first | refine zz ?_ _ | refine zj ?_ | refine zq ?_ _));refine blk_put (cs := #[.int .i64 ((wj l0 x12_1).f0),.string ((wj l0 x12_1).f1),.string ((wj l0 x12_1).f2),.slice none 0 0,.slice none 0 0]) ?_ 3 _ rfl;(with_reducible repeat (first | refine zz ?_ _ | refine zj ?_ | refine zq ?_ _));refine blk_put (cs := #[.int .i64 ((wj l0 x12_1).f0),.string ((wj l0 x12_1).f1),.string (⟨#[]⟩ : ByteArray),.slice none 0 0,.slice none 0 0]) ?_ 2 _ rfl;(with_reducible repeat (first | refine zz ?_ _ | refine zj ?_ | refine zq ?_ _));refine blk_put (cs := #[.int .i64 ((wj l0 x12_1).f0),.string (⟨#[]⟩ : ByteArray),.string (⟨#[]⟩ : ByteArray),.slice none 0 0,.slice none 0 0]) ?_ 1 _ rfl;(with_reducible repeat (first | refine zz ?_ _ | refine zj ?_ | refine zq ?_ _));refine blk_put (cs := #[.int .i64 0,.string (⟨#[]⟩ : ByteArray),.string (⟨#[]⟩ : ByteArray),.slice none 0 0,.slice none 0 0]) ?_ 0 _ rfl;(with_reducible repeat (first | refine zz ?_ _ | refine zj ?_ | refine zq ?_ _));exact BK102.out) hb);have n2_ := qq.mk (zv (by repeat (first | (with_reducible first | exact HB.out | apply qj | apply qz | apply qk | refine qx ?_ GE102.out) | exact HB.out)) hb);clear HO_4;clear BK102;clear HB;have HO_4 := n0_;have BK102 := n1_;have HB := n2_;clear n0_ n1_ n2_;(try clear hb);(try clear hb2);(try clear hk);(try clear hi)))
        go_ret2
        exact ⟨_,by first | rfl | (simp [*,jk,jj] <;> rfl),by first | exact Kd.S_nil _ _ _ _ _ | exact Kd.N_nil _ _ _ _ _ | exact Kd.V_nil _ _ _ _ _ | exact Kd.Q_nil _ _ _ _ _ | exact Kd.R_nil _ _ _ _ _,by repeat (first | (with_reducible first | exact HB.out | apply qj | apply qz | apply qk | refine qx ?_ GE102.out) | exact HB.out)⟩
      ·rw [if_neg c5] at H
       exact absurd H (by simp)
     ·rw [if_neg c4] at H
      exact absurd H (by simp)
    ·rw [if_neg c3] at H
     have c3b0 : decide (x12_1 < (l0.length : Int)) = false := decide_eq_false c3
     clear c3
     simp only [Option.some.injEq,Prod.mk.injEq] at H
     obtain ⟨rfl,rfl⟩ := H
     go_wp2
     go_ret2
     exact ⟨_,by first | rfl | (simp [*,jk,jj] <;> rfl),by (with_reducible repeat (first | apply Kd.kx | apply Kd.kw | apply Kd.vq));exact HO_4.out,by repeat (first | (with_reducible first | exact HB.out | apply qj | apply qz | apply qk) | exact HB.out)⟩
end Go.Proofs.Ytipdkendfcopiaa.Pr
