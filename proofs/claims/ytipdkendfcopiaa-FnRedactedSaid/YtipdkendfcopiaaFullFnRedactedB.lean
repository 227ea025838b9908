/- Printed texts, walks and plain facts that the law FnRedacted leans on, joined. -/
import Derived.Test.YtipdkendfcopiaaFullFnRedactedA
import Derived.ProofKit
import Derived.OpenShut
import Derived.ShutString
import Derived.ChangeOld
import Derived.Deep.Slices
import Derived.Lib.SmallJoins
import Derived.Test.YtipdkendfcopiaaProg
import Derived.Below
import Derived.Deep.Draws
import Derived.Deep.AppendLies
import Derived.Maps.AppendAt
import Derived.OwnWalk
import Derived.Laws.BytesArg
import Derived.Laws.MakeOwn
import Derived.Laws.OwnMore
import Derived.Deep.OwnRows
import Derived.Tactics
import Derived.Lib.ConvBytes
import Derived.Laws.Slices
import Derived.WalkKit
import Derived.KernelRfl
import Derived.RowKit3
import Derived.Deep.LoopGhost
import Derived.Deep.QuietTactic
import Derived.BigQuiet
import Derived.WideLaws
import Derived.Deep.DeepCutAuto
import Derived.Deep.CutBlock
import Derived.Deep.RegionHeld3
import Derived.Laws.Rows
import Derived.Lib.AppendStr
import Derived.ArgAppend
import Derived.Laws.IdiomCopy
import Derived.OrdersHeld
import Derived.Laws.BitsLemmas
import Derived.RowKit
import Derived.StillTailTactics
import Derived.WalkSpells
import Derived.Lib.AppendZeros
import Derived.Shelf.Abstract
import Derived.Lib.SliceRun
namespace Go.Proofs.Ytipdkendfcopiaa.Read
open Go.RowKit Go.ChangeShapes Go.WideShapes Go.Deep Go.Proofs.YtipdkendfcopiaaW.PrintWords
set_option linter.unusedVariables false
def Tells (P : Program) (t : TypeId) {α : Type} (d : Kd α) (ok : α → Prop) : Prop :=
 P.cellsOf t = d.sz ∧ ∀ (H : Type) (enc : TypeId × Value → H) (w : World) (sp : Nat → Bool) (fuel : Nat) (cs : List Value) (x : DataW H × List MemPlace),
  DataW.trod enc P w 0 sp true fuel t cs = some x → ∃ a : α,d.K w a cs ∧ ok a
theorem tells_int {P : Program} {t : TypeId} {k : IntKind} (ht : P.underlying t = some (.int k)) (hc : P.cellsOf t = 1) : Tells P t (Kd.int k) (fun n => (Lit.int k n).wf = true) :=
 ⟨hc,fun H enc w sp fuel cs x h => by
  obtain ⟨n,rfl,_,hw⟩ := DataW.trod_int ht h
  exact ⟨n,rfl,hw⟩⟩
theorem tells_slice {P : Program} {t e : TypeId} {α : Type} {d : Kd α} {ok : α → Prop} (ht : P.underlying t = some (.slice e)) (hc : P.cellsOf t = 1) (he : Tells P e d ok) :
  Tells P t (Kd.slice e d) (fun xs => xs.length ≤ 9223372036854775807 ∧ ∀ x ∈ xs,ok x) := by
 refine ⟨hc,fun H enc w sp fuel cs x h => ?_⟩
 rcases open_slice ht h with ⟨rfl,_⟩ | ⟨a,len,cap,m,n,D,Pl,rfl,_,hl,hm,hmm,_,hx⟩
 ·exact ⟨[],⟨none,0,rfl,by simp,Kd.C_nil d w⟩,by simp,by simp⟩
 ·have hlm : len ≤ m := by rw [hmm];split <;> omega
  have hmax : len ≤ 9223372036854775807 := by unfold maxLen at hm;omega
  have key : ∀ j,j ≤ len → ∃ xs : List α,xs.length = j ∧ (∀ x ∈ xs,ok x) ∧ ∀ i p,xs[i]? = some p → ∃ c,c.length = d.sz ∧ d.K w p c ∧ ∀ k u,c[k]? = some u → w.cell? (a.add (i * d.sz + k)) = some u := by
   intro j
   induction j with
   | zero => exact fun _ => ⟨[],rfl,by simp,by simp⟩
   | succ j ih =>
    intro hj
    obtain ⟨xs,hxl,hok,hc⟩ := ih (by omega)
    obtain ⟨cs',h1,h2⟩ := hx j (by omega)
    obtain ⟨y,hy,hoky⟩ := he.2 H enc w sp n cs' _ h2
    obtain ⟨_,hcl,hcc⟩ := World.cells?_some h1
    refine ⟨xs ++ [y],by simp [hxl],fun x hx => ?_,fun i p hp => ?_⟩
    ·rcases List.mem_append.1 hx with hx | hx
     ·exact hok x hx
     ·rw [List.mem_singleton.1 hx];exact hoky
    ·rcases Nat.lt_or_ge i xs.length with hi | hi
     ·rw [List.getElem?_append_left hi] at hp
      exact hc i p hp
     ·rw [List.getElem?_append_right hi] at hp
      have hi' : i = xs.length := by
       rcases Nat.eq_zero_or_pos (i - xs.length) with h0 | h0
       ·omega
       ·rw [List.getElem?_eq_none (by simp;omega)] at hp;cases hp
      subst hi'
      simp only [Nat.sub_self,List.getElem?_cons_zero,Option.some.injEq] at hp
      subst hp
      refine ⟨cs',by rw [hcl,he.1],hy,fun k u hu => ?_⟩
      have hk : k < P.cellsOf e := by
       rcases Nat.lt_or_ge k cs'.length with h | h
       ·omega
       ·rw [List.getElem?_eq_none h] at hu;cases hu
      have := hcc k hk
      rw [Go.Addr.add_add,he.1,← hxl] at this
      rw [this];exact hu
  obtain ⟨xs,hxl,hok,hc⟩ := key len (Nat.le_refl _)
  refine ⟨xs,⟨some a,cap,by rw [hxl],by omega,?_⟩,by omega,hok⟩
  exact ⟨rfl,by omega,fun _ => ⟨a,rfl,hc⟩⟩
theorem tells_weaken {P : Program} {t : TypeId} {α : Type} {d : Kd α} {ok ok' : α → Prop} (h : Tells P t d ok) (hw : ∀ a,ok a → ok' a) : Tells P t d ok' :=
 ⟨h.1,fun H enc w sp fuel cs x hx => let ⟨a,ha,ho⟩ := h.2 H enc w sp fuel cs x hx;⟨a,ha,hw a ho⟩⟩
theorem tells_arg {P : Program} {t : TypeId} {α : Type} {d : Kd α} {ok : α → Prop} (h : Tells P t d ok) {H : Type} {enc : TypeId × Value → H} {w : World} {sp : Nat → Bool} {v : Value} {D : DataW H} {ps : List MemPlace}
  (hv : DataW.Trod enc P w 0 sp true t v D ps) : ∃ a,d.K w a v.cells.toList ∧ ok a := by
 obtain ⟨fuel,hf⟩ := hv
 exact h.2 H enc w sp fuel _ _ hf
theorem byte_bounds {n : Int} (h : (Lit.int .u8 n).wf = true) : 0 ≤ n ∧ n ≤ 255 := by
 simpa [Lit.wf,IntKind.min,IntKind.max,IntKind.signed,IntKind.bits] using h
def okB (n : Int) : Prop := 0 ≤ n ∧ n ≤ 255
def okS (s : ByteArray) : Prop := s.size ≤ 9223372036854775807
def okL {α : Type} (ok : α → Prop) (xs : List α) : Prop := xs.length ≤ 9223372036854775807 ∧ ∀ x ∈ xs,ok x
theorem tellsB {P : Program} {t : TypeId} (ht : P.underlying t = some (.int .u8)) (hc : P.cellsOf t = 1) : Tells P t (Kd.int .u8) okB := tells_weaken (tells_int ht hc) fun _ h => byte_bounds h
theorem tellsL {P : Program} {t e : TypeId} {α : Type} {d : Kd α} {ok : α → Prop} (ht : P.underlying t = some (.slice e)) (hc : P.cellsOf t = 1) (he : Tells P e d ok) : Tells P t (Kd.slice e d) (okL ok) := tells_slice ht hc he
theorem arg_slice {P : Program} {t e : TypeId} {α : Type} {d : Kd α} {ok : α → Prop} (ht : P.underlying t = some (.slice e)) (h : Tells P t (Kd.slice e d) (okL ok)) {H : Type} {enc : TypeId × Value → H} {w w2 : World} {r : Reach} {base : Nat} {sp : Nat → Bool} {v : Value} {D : DataW H} {ps : List MemPlace}
  (ho : Value.okWide P w2 r base t v) (hv : DataW.Trod enc P w 0 sp true t v D ps) : ∃ A c xs,v = .slice A xs.length c ∧ xs.length ≤ c ∧ d.C w A xs.length xs ∧ okL ok xs := by
 obtain ⟨a,l,c,rfl⟩ := okWide_slice ht ho
 obtain ⟨xs,⟨A,c',hc,hl,hC⟩,hok⟩ := tells_arg h hv
 simp only [Value.cells,List.cons.injEq,and_true,Value.slice.injEq] at hc
 obtain ⟨rfl,rfl,rfl⟩ := hc
 exact ⟨_,_,xs,rfl,hl,hC,hok⟩
end Go.Proofs.Ytipdkendfcopiaa.Read
namespace Go.Proofs.Ytipdkendfcopiaa.Pr
open Go.RowKit Go.Proofs.YtipdkendfcopiaaW.PrintWords Go.Proofs.YtipdkendfcopiaaW.PrintLast Go.Proofs.YtipdkendfcopiaaW.PrintMore
attribute [local go_sem] max2_int min2_int max_two min_two max_three min_three max_four min_four
set_option linter.unusedVariables false
set_option linter.unusedSimpArgs false
def errW : Option Int → Value
 | none => .nilIface
 | some c => .iface 0 (.int .i64 c)
theorem kz : errW none = .nilIface := rfl
theorem jx (c : Int) : errW (some c) = .iface 0 (.int .i64 c) := rfl
theorem info5 : (Try.prog.info? 5).map (fun i => (i.zero,i.size,i.bytes)) = some (some (.int .u8 0),1,1) := by kernel_rfl
theorem info22 : (Try.prog.info? 22).map (fun i => (i.zero,i.size,i.bytes)) = some (some (.slice none 0 0),1,24) := by kernel_rfl
theorem info27 : (Try.prog.info? 27).map (fun i => (i.zero,i.size,i.bytes)) = some (some (.agg #[(.int .i64 0),(.string ⟨#[]⟩),(.string ⟨#[]⟩),(.slice none 0 0),(.slice none 0 0)]),5,88) := by kernel_rfl
def rd_L2 (xs : List (List Int)) (i : Int) : (List Int) := xs.getD i.toNat ([] : List Int)
theorem at_L2 {w : World} {A : Option Addr} {n : Nat} {xs : List (List Int)} (h : Kd.C (Kd.slice 5 (Kd.int .u8)) w A n xs) (i : Int) (h0 : 0 ≤ i) (h1 : i < n) : ∃ ad A0 c0,A = some ad ∧ w.cell? (ad.add i.toNat) = some (.slice A0 (rd_L2 xs i).length c0) ∧ (rd_L2 xs i).length ≤ c0 ∧ (Kd.int .u8).C w A0 (rd_L2 xs i).length (rd_L2 xs i) := by
 obtain ⟨ad,c,e,_,hK,hc0⟩ := Kd.C_get h ([] : List Int) i h0 h1
 have hc : ∀ j u,c[j]? = some u → w.cell? (ad.add (i.toNat * 1 + j)) = some u := hc0
 obtain ⟨A0,c0,rfl,l0,g0⟩ := hK
 exact ⟨ad,A0,c0,e,by have hq := hc 0 _ rfl;rwa [Nat.mul_one,Nat.add_zero] at hq,l0,g0⟩
structure S24 where
 f0 : Int
 f1 : ByteArray
 f2 : ByteArray
 f3 : (List Int)
 f4 : (List Int)
structure S27 where
 f0 : Int
 f1 : ByteArray
 f2 : ByteArray
 f3 : (List Int)
 f4 : (List Int)
def z27 : S27 := ⟨(0 : Int),(⟨#[]⟩ : ByteArray),(⟨#[]⟩ : ByteArray),([] : List Int),([] : List Int)⟩
def k27 : Kd S27 := Kd.iso (Kd.pair (Kd.int .i64) (Kd.pair Kd.string (Kd.pair Kd.string (Kd.pair (Kd.slice 5 (Kd.int .u8)) (Kd.slice 5 (Kd.int .u8)))))) (fun x : S27 => (x.f0,x.f1,x.f2,x.f3,x.f4))
theorem k27_open {w : World} {x : S27} {cs : List Value} (h : k27.K w x cs) : ∃ A3 c3 A4 c4,cs = [.int .i64 x.f0,.string x.f1,.string x.f2,.slice A3 x.f3.length c3,.slice A4 x.f4.length c4] ∧ x.f3.length ≤ c3 ∧ (Kd.int .u8).C w A3 x.f3.length x.f3 ∧ x.f4.length ≤ c4 ∧ (Kd.int .u8).C w A4 x.f4.length x.f4 := by
 obtain ⟨_,_,rfl,rfl,⟨_,_,rfl,rfl,⟨_,_,rfl,rfl,⟨_,_,rfl,⟨A3,c3,rfl,l3,g3⟩,⟨A4,c4,rfl,l4,g4⟩⟩⟩⟩⟩ := h
 exact ⟨A3,c3,A4,c4,rfl,l3,g3,l4,g4⟩
theorem k27_mk (w : World) (x : S27) {A3 : Option Addr} {c3 : Nat} (l3 : x.f3.length ≤ c3) (g3 : (Kd.int .u8).C w A3 x.f3.length x.f3) {A4 : Option Addr} {c4 : Nat} (l4 : x.f4.length ≤ c4) (g4 : (Kd.int .u8).C w A4 x.f4.length x.f4) : k27.K w x [.int .i64 x.f0,.string x.f1,.string x.f2,.slice A3 x.f3.length c3,.slice A4 x.f4.length c4] := ⟨[.int .i64 x.f0],[.string x.f1,.string x.f2,.slice A3 x.f3.length c3,.slice A4 x.f4.length c4],rfl,rfl,⟨[.string x.f1],[.string x.f2,.slice A3 x.f3.length c3,.slice A4 x.f4.length c4],rfl,rfl,⟨[.string x.f2],[.slice A3 x.f3.length c3,.slice A4 x.f4.length c4],rfl,rfl,⟨[.slice A3 x.f3.length c3],[.slice A4 x.f4.length c4],rfl,⟨A3,c3,rfl,l3,g3⟩,⟨A4,c4,rfl,l4,g4⟩⟩⟩⟩⟩
theorem k27_openF {W : World} {ok : Nat → Prop} {x : S27} {cs : List Value} (h : Kd.FK k27 W ok x cs) : ∃ A3 c3 A4 c4,cs = [.int .i64 x.f0,.string x.f1,.string x.f2,.slice A3 x.f3.length c3,.slice A4 x.f4.length c4] ∧ x.f3.length ≤ c3 ∧ Kd.F (Kd.int .u8) W ok A3 x.f3.length x.f3 ∧ x.f4.length ≤ c4 ∧ Kd.F (Kd.int .u8) W ok A4 x.f4.length x.f4 := by
 obtain ⟨A3,c3,A4,c4,rfl,l3,_,l4,_⟩ := k27_open (Kd.FK_now h)
 exact ⟨A3,c3,A4,c4,rfl,l3,(fun W' hW => by obtain ⟨A3_,c3_,A4_,c4_,he,l3_,g3_,l4_,g4_⟩ := k27_open (h W' hW);injection (Option.some.inj (show some (Value.slice A3 x.f3.length c3) = some (Value.slice A3_ x.f3.length c3_) from congrArg (fun l => l[3]?) he)) with ha_ _ _;rw [ha_];exact g3_),l4,(fun W' hW => by obtain ⟨A3_,c3_,A4_,c4_,he,l3_,g3_,l4_,g4_⟩ := k27_open (h W' hW);injection (Option.some.inj (show some (Value.slice A4 x.f4.length c4) = some (Value.slice A4_ x.f4.length c4_) from congrArg (fun l => l[4]?) he)) with ha_ _ _;rw [ha_];exact g4_)⟩
theorem k27_mkF (W : World) (ok : Nat → Prop) (x : S27) {A3 : Option Addr} {c3 : Nat} (l3 : x.f3.length ≤ c3) (g3 : Kd.F (Kd.int .u8) W ok A3 x.f3.length x.f3) {A4 : Option Addr} {c4 : Nat} (l4 : x.f4.length ≤ c4) (g4 : Kd.F (Kd.int .u8) W ok A4 x.f4.length x.f4) : Kd.FK k27 W ok x [.int .i64 x.f0,.string x.f1,.string x.f2,.slice A3 x.f3.length c3,.slice A4 x.f4.length c4] := fun W2 hW => k27_mk W2 x l3 (g3 W2 hW) l4 (g4 W2 hW)
def wx (xs : List S27) (i : Int) : S27 := xs.getD i.toNat z27
theorem at_T27 {w : World} {A : Option Addr} {n : Nat} {xs : List S27} (h : Kd.C k27 w A n xs) (i : Int) (h0 : 0 ≤ i) (h1 : i < n) : ∃ ad A3 c3 A4 c4,A = some ad ∧ w.cell? (ad.add (i.toNat * 5)) = some (.int .i64 (wx xs i).f0) ∧ w.cell? ⟨(ad.add (i.toNat * 5)).block,(ad.add (i.toNat * 5)).off + 1,none⟩ = some (.string (wx xs i).f1) ∧ w.cell? ⟨(ad.add (i.toNat * 5)).block,(ad.add (i.toNat * 5)).off + 2,none⟩ = some (.string (wx xs i).f2) ∧ w.cell? ⟨(ad.add (i.toNat * 5)).block,(ad.add (i.toNat * 5)).off + 3,none⟩ = some (.slice A3 (wx xs i).f3.length c3) ∧ w.cell? ⟨(ad.add (i.toNat * 5)).block,(ad.add (i.toNat * 5)).off + 4,none⟩ = some (.slice A4 (wx xs i).f4.length c4) ∧ (wx xs i).f3.length ≤ c3 ∧ (Kd.int .u8).C w A3 (wx xs i).f3.length (wx xs i).f3 ∧ (wx xs i).f4.length ≤ c4 ∧ (Kd.int .u8).C w A4 (wx xs i).f4.length (wx xs i).f4 := by
 obtain ⟨ad,c,e,_,hK,hc0⟩ := Kd.C_get h z27 i h0 h1
 have hc : ∀ j u,c[j]? = some u → w.cell? (ad.add (i.toNat * 5 + j)) = some u := hc0
 obtain ⟨A3,c3,A4,c4,rfl,l3,g3,l4,g4⟩ := k27_open hK
 exact ⟨ad,A3,c3,A4,c4,e,hc 0 _ rfl,by rw [← add_field _ _ 1 (by omega)];exact hc 1 _ rfl,by rw [← add_field _ _ 2 (by omega)];exact hc 2 _ rfl,by rw [← add_field _ _ 3 (by omega)];exact hc 3 _ rfl,by rw [← add_field _ _ 4 (by omega)];exact hc 4 _ rfl,l3,g3,l4,g4⟩
structure S107 where
 f0 : (List Int)
 f1 : Int
 f2 : Int
open Go.RowKit Go.Proofs.Ytipdkendfcopiaa.Read Go.Proofs.YtipdkendfcopiaaW.PrintWords
theorem w64 {n : Int} (h0 : -9223372036854775808 ≤ n) (h1 : n ≤ 9223372036854775807) : wrap64 n = n := by unfold wrap64;omega
theorem rd_nat {l : List Int} {i : Nat} (h : i < l.length) : rd l (i : Int) = l[i] := by
 simp [rd,List.getD_eq_getElem?_getD,List.getElem?_eq_getElem h]
def qzz.f (a0 : Int) : Option (List Int) := some (([(a0) % 256,(a0 / 256) % 256,(a0 / 65536) % 256,(a0 / 16777216) % 256] : List Int))
set_option maxHeartbeats 8000000 in
set_option maxRecDepth 100000 in
theorem qzz.calls (a0 : Int) (r : List Int) (w : World) (h : qzz.f a0 = some r) :
  Calls Try.prog 79 #[.int .i64 a0] w fun e w' => ∃ v0_ : Value,e = .returned (v0_) ∧ Kd.R (Kd.int .u8) 5 w' w.heap.size (fun _ => True) v0_ r ∧ Below w.heap.size w w' := by
 have HB := qq.mk (Below.refl w.heap.size w)
 have H : (some (([(a0) % 256,(a0 / 256) % 256,(a0 / 65536) % 256,(a0 / 16777216) % 256] : List Int))) = some r := h
 clear h
 obtain ⟨y101,hy101⟩ : ∃ y_ : List Int,y_ = (([(a0) % 256,(a0 / 256) % 256,(a0 / 65536) % 256,(a0 / 16777216) % 256] : List Int)) := ⟨_,rfl⟩
 replace H : (some y101) = some r := by first | (rw [hy101];with_reducible exact H) | (have H2_ := (Option.bind_some _ _).symm.trans H;rw [hy101];with_reducible exact H2_) | (have H2_ := (Option.bind_some _ _).symm.trans H;with_reducible exact H2_) | with_reducible exact H | (rw [hy101];exact H) | exact H
 have Ny101 := qq.mk hy101
 clear hy101
 obtain rfl := Option.some.inj H
 go_enter Try.func79,Try.ntmps79
 go_wp2_with (first | ((with_reducible refine gate_dst (N := 14) rfl ?_);refine Kd.R_lit (Kd.int .u8) _ 5 ?hg (N := 14) ?hd (xs := ([(a0) % 256,(a0 / 256) % 256,(a0 / 65536) % 256,(a0 / 16777216) % 256] : List Int)) (inner := [.int .u8 ((a0) % 256),.int .u8 ((a0 / 256) % 256),.int .u8 ((a0 / 65536) % 256),.int .u8 ((a0 / 16777216) % 256)]) (ok := fun _ => True) (okp := fun _ => True) ?hr ?hp (fun _ hk => hk) trivial (Below.refl _ _) (Nat.le_refl _) (by simp) ?_;(case hd => rfl);(case hg => rfl);(case hr => first | (go_simp;done) | (go_simp;rfl));(case hp => exact (Reps.one (show Kd.M (Kd.int .u8) _ _ _ ((a0) % 256) [.int .u8 ((a0) % 256)] from rfl) (Reps.one (show Kd.M (Kd.int .u8) _ _ _ ((a0 / 256) % 256) [.int .u8 ((a0 / 256) % 256)] from rfl) (Reps.one (show Kd.M (Kd.int .u8) _ _ _ ((a0 / 65536) % 256) [.int .u8 ((a0 / 65536) % 256)] from rfl) (Reps.one (show Kd.M (Kd.int .u8) _ _ _ ((a0 / 16777216) % 256) [.int .u8 ((a0 / 16777216) % 256)] from rfl) (Reps.none _ _))))));intro v102 w2 ho3 hb hg_ hnew_;clear hg_ hnew_;(first | rw [← Ny101.out] at ho3 | (simp only [Int.reduceToNat] at ho3;rw [← Ny101.out] at ho3));have n0_ := qq.mk (Kd.R_lower ho3 (zw (by repeat (first | (with_reducible first | exact HB.out | apply qj | apply qz | apply qk) | exact HB.out))));have n1_ := qq.mk (zv (by repeat (first | (with_reducible first | exact HB.out | apply qj | apply qz | apply qk) | exact HB.out)) hb);clear HB;have HO103 := n0_;have HB := n1_;clear n0_ n1_;clear hb ho3))
 go_ret
 exact ⟨_,by first | rfl | (simp [*,kz,jx] <;> rfl),by (with_reducible repeat (first | apply Kd.jq | apply Kd.zx | apply Kd.jz));exact HO103.out,by repeat (first | (with_reducible first | exact HB.out | apply qj | apply qz | apply qk) | exact HB.out)⟩
def mulT : List Int := [1103515245,69069,1664525,22695477]
def stepAt (a : List Int) (x : Int) (i : Nat) : List Int := a.set i ((a.getD i 0 * mulT.getD i 0 + x + 1 + a.getD ((i+1)%4) 0) % 2147483579)
def mixN (a : List Int) (x : Int) : Nat → List Int
 | 0 => a
 | i+1 => stepAt (mixN a x i) x i
structure OnlyB (w w' : World) (g : Nat) : Prop where
 os : w'.os = w.os
 tape : w'.tape = w.tape
 output : w'.output = w.output
 size : w'.heap.size = w.heap.size
 block : ∀ k,k ≠ g → w'.heap[k]? = w.heap[k]?
theorem OnlyB.refl (w : World) (g : Nat) : OnlyB w w g := ⟨rfl,rfl,rfl,rfl,fun _ _ => rfl⟩
theorem OnlyB.drew {w w' : World} {g : Nat} (h : OnlyB w w' g) : OnlyB w w'.drew g := ⟨h.os,h.tape,h.output,h.size,h.block⟩
theorem OnlyB.set {w w' : World} {g : Nat} (h : OnlyB w w' g) (j : Nat) (u : Value) : OnlyB w (w'.setCell ⟨g,j,none⟩ u) g :=
 ⟨h.os,h.tape,h.output,by simpa [World.setCell] using h.size,fun k hk => (Below.heap_setCell w' ⟨g,j,none⟩ u k hk).trans (h.block k hk)⟩
theorem mulOk : ∀ j : Nat,j < 4 → 0 ≤ mulT.getD j 0 ∧ mulT.getD j 0 < 2147483579 := by decide
theorem mix_len (l : List Int) (x : Int) (k : Nat) : (mixN l x k).length = l.length := by
 induction k with
 | zero => rfl
 | succ k ih => simp [mixN,stepAt,ih]
theorem prod_bd {a b : Int} (ha : 0 ≤ a) (ha2 : a < 2147483579) (hb : 0 ≤ b) (hb2 : b < 2147483579) : 0 ≤ a * b ∧ a * b ≤ 4611685717779682084 := by
 refine ⟨Int.mul_nonneg ha hb,?_⟩
 have := Int.mul_le_mul (show a ≤ 2147483578 by omega) (show b ≤ 2147483578 by omega) hb (by omega)
 omega
theorem mix_bd (l : List Int) (x : Int) (hx : 0 ≤ x) (hl : l.length = 4) (hb : ∀ j,j < 4 → 0 ≤ l.getD j 0 ∧ l.getD j 0 < 2147483579) (k : Nat) (hk : k ≤ 4) : ∀ j,j < 4 → 0 ≤ (mixN l x k).getD j 0 ∧ (mixN l x k).getD j 0 < 2147483579 := by
 induction k with
 | zero => exact hb
 | succ k ih =>
  intro j hj
  have ih := ih (by omega)
  have hlen := mix_len l x k
  simp only [mixN,stepAt]
  by_cases e : j = k
  ·subst e
   rw [List.getD_eq_getElem?_getD,List.getElem?_set_self (by omega)]
   simp only [Option.getD_some]
   omega
  ·rw [List.getD_eq_getElem?_getD,List.getElem?_set_ne (by omega),← List.getD_eq_getElem?_getD]
   exact ih j hj
theorem nums_cell {w : World} {g : Nat} {l : List Int} {t : TypeId} (h : w.heap[g]? = some (.cells (nums .i64 l).toArray t (0,0))) (k : Nat) (hk : k < l.length) : w.cell? ⟨g,k,none⟩ = some (.int .i64 (l.getD k 0)) := by
 rw [qw h]
 simp [nums,List.getElem?_map,List.getElem?_eq_getElem hk,List.getD_eq_getElem?_getD]
set_option maxHeartbeats 1000000 in
set_option maxRecDepth 100000 in
theorem eat_calls (x : Int) (l : List Int) (hl : l.length = 4) (hb : ∀ j,j < 4 → 0 ≤ l.getD j 0 ∧ l.getD j 0 < 2147483579) (ga gm : Nat) (w : World) (hx0 : 0 ≤ x) (hx1 : x ≤ 255)
 (ha : w.heap[ga]? = some (.cells (nums .i64 l).toArray 113 (0,0))) (hm : w.heap[gm]? = some (.cells (nums .i64 mulT).toArray 113 (0,0))) (hne : ga ≠ gm) :
 Calls Try.prog 117 #[.int .u8 x,.pointer (some ⟨ga,0,none⟩),.pointer (some ⟨gm,0,none⟩)] w fun e w' => e = .returned (.tuple #[]) ∧ w'.heap[ga]? = some (.cells (nums .i64 (mixN l x 4)).toArray 113 (0,0)) ∧ OnlyB w w' ga := by
 have HL := qq.mk hl;have HB := qq.mk hb;have HA := qq.mk ha;have HM := qq.mk hm
 clear hl hb ha hm
 go_enter Try.func117,Try.ntmps117
 go_wp2
 go_loopw [5] (fun i wr => ∃ k : Nat,k ≤ 4 ∧ i = .int .i64 k ∧ qq (wr.heap[ga]? = some (.cells (nums .i64 (mixN l x k)).toArray 113 (0,0)) ∧ OnlyB w wr ga)) (fun i _ => 4 - (intOf i).toNat)
 case atStart => exact ⟨0,by omega,rfl,⟨HA.out,OnlyB.refl _ _⟩⟩
 case round =>
  obtain ⟨k,hk,rfl,HW⟩ := hrel
  by_cases hlt : k < 4
  ·obtain ⟨a,ea⟩ : ∃ a,a = mixN l x k := ⟨_,rfl⟩
   have hc1 := nums_cell HW.out.1 k (by rw [mix_len,HL.out];omega)
   have hc2 := nums_cell HW.out.1 ((k+1)%4) (by rw [mix_len,HL.out];omega)
   have hc3 := nums_cell ((HW.out.2.block gm (Ne.symm hne)).trans HM.out) k hlt
   have hf := qv HW.out.1 k
   have b1 := mix_bd l x hx0 HL.out HB.out k hk k hlt
   have b2 := mix_bd l x hx0 HL.out HB.out k hk ((k+1)%4) (by omega)
   have b3 := mulOk k hlt
   obtain ⟨p1,eP1⟩ : ∃ p,p = (mixN l x k).getD k 0 := ⟨_,rfl⟩
   obtain ⟨p2,eP2⟩ : ∃ p,p = (mixN l x k).getD ((k+1)%4) 0 := ⟨_,rfl⟩
   obtain ⟨p3,eP3⟩ : ∃ p,p = mulT.getD k 0 := ⟨_,rfl⟩
   rw [← eP1] at hc1 b1;rw [← eP2] at hc2 b2;rw [← eP3] at hc3 b3
   have b4 := prod_bd b1.1 b1.2 b3.1 b3.2
   have EP1 := qq.mk eP1;have EP2 := qq.mk eP2;have EP3 := qq.mk eP3;have EA := qq.mk ea
   clear eP1 eP2 eP3 ea
   go_wp2
   have e1 : IntKind.i64.wrap (p1 * p3) = p1 * p3 := IntWalk.i64_in _ (by omega)
   have e2 : IntKind.i64.wrap x = x := IntWalk.i64_in _ (by omega)
   have e3 : IntKind.i64.wrap (p1 * p3 + x) = p1 * p3 + x := IntWalk.i64_in _ (by omega)
   have e4 : IntKind.i64.wrap (p1 * p3 + x + 1) = p1 * p3 + x + 1 := IntWalk.i64_in _ (by omega)
   have e5 : IntKind.i64.wrap (k + 1) = k + 1 := IntWalk.i64_in _ (by omega)
   have e6 : ((k : Int) + 1).tmod 4 = ((k : Int) + 1) % 4 := Int.tmod_eq_emod_of_nonneg (by omega)
   have e7 : IntKind.i64.wrap (p1 * p3 + x + 1 + p2) = p1 * p3 + x + 1 + p2 := IntWalk.i64_in _ (by omega)
   have e8 : (p1 * p3 + x + 1 + p2).tmod 2147483579 = (p1 * p3 + x + 1 + p2) % 2147483579 := Int.tmod_eq_emod_of_nonneg (by omega)
   have n0 : 0 ≤ ((k : Int) + 1) % 4 := by omega
   have n4 : ((k : Int) + 1) % 4 < 4 := by omega
   have n1 : (((k : Int) + 1) % 4).toNat = (k + 1) % 4 := by omega
   go_still_tail 20,(by kernel_rfl)
   clear e1 e2 e3 e4 e5 e6 e7 e8 n0 n4 n1
   skip
   change wpList _ _ _ _ _ wr.drew
   have HW2 : qq (wr.drew.heap[ga]? = some (.cells (nums .i64 (mixN l x k)).toArray 113 (0,0)) ∧ OnlyB w wr.drew ga) := ⟨HW.out.1,HW.out.2.drew⟩
   clear HW hc1 hc2 hc3 hf
   generalize wr.drew = w2 at HW2 ⊢
   have hc1 := nums_cell HW2.out.1 k (by rw [mix_len,HL.out];omega)
   have hf := qv HW2.out.1 k
   go_wp2
   go_roundw
   case rel =>
    refine ⟨k + 1,by omega,by go_num,?_,HW2.out.2.set _ _⟩
    rw [blk_set HW2.out.1]
    simp only [mixN,stepAt,nums,List.map_set,List.setIfInBounds_toArray,EP1.out,EP2.out,EP3.out]
   case measure => simp [intOf];omega
  ·go_wp2
   obtain rfl : k = 4 := by omega
   exact bodyPost_end (results_none rfl _ _ _) rfl ⟨rfl,HW.out.1,HW.out.2⟩
def isBytes (l : List Int) : Prop := ∀ x ∈ l,0 ≤ x ∧ x ≤ 255
instance (l : List Int) : Decidable (isBytes l) := by unfold isBytes;infer_instance
def dgMix (a : List Int) (x : Int) : List Int := mixN a x 4
def dgAll (a : List Int) (xs : List Int) : List Int := xs.foldl dgMix a
def yb (n : Int) : List Int := [n % 256,(n / 256) % 256,(n / 65536) % 256,(n / 16777216) % 256]
def dgS (l : List Int) : List Int := dgAll (dgAll (dgAll [11,22,33,44] l) (yb l.length)) (List.replicate 8 0)
def dg (l : List Int) : List Int := (dgS l).flatMap yb
def qqq.f (l0 : List Int) : Option (List Int) := if isBytes l0 then (if (l0.length : Int) > 20000 then none else some (dg l0)) else none
theorem yb_bytes (n : Int) : isBytes (yb n) := by
 intro x hx
 simp only [yb,List.mem_cons,List.not_mem_nil,or_false] at hx
 omega
theorem yb_len (n : Int) : (yb n).length = 4 := rfl
structure DigInv (w wr : World) (a : List Int) : Prop where
 A : wr.heap[w.heap.size]? = some (.cells (nums .i64 a).toArray 113 (0,0))
 M : wr.heap[w.heap.size + 1]? = some (.cells (nums .i64 mulT).toArray 113 (0,0))
 B : Below w.heap.size w wr
 len : a.length = 4
 bd : ∀ j,j < 4 → 0 ≤ a.getD j 0 ∧ a.getD j 0 < 2147483579
theorem DigInv.to {w wr w' : World} {a : List Int} {x : Int} (h : DigInv w wr a) (hx : 0 ≤ x) (h1 : w'.heap[w.heap.size]? = some (.cells (nums .i64 (mixN a x 4)).toArray 113 (0,0))) (h2 : OnlyB wr w' w.heap.size) : DigInv w w' (dgMix a x) :=
 ⟨h1,(h2.block _ (by omega)).trans h.M,⟨h2.os.trans h.B.os,h2.tape.trans h.B.tape,h2.output.trans h.B.output,by rw [h2.size];exact h.B.size,fun k hk => (h2.block k (by omega)).trans (h.B.block k hk)⟩,by rw [dgMix,mix_len,h.len],mix_bd a x hx h.len h.bd 4 (by omega)⟩
theorem DigInv.drew {w wr : World} {a : List Int} (h : DigInv w wr a) : DigInv w wr.drew a := ⟨h.A,h.M,h.B.drew,h.len,h.bd⟩
theorem DigInv.keep {w wr w' : World} {a : List Int} (h : DigInv w wr a) (hb : Below (w.heap.size + 2) wr w') : DigInv w w' a :=
 ⟨(hb.block _ (by omega)).trans h.A,(hb.block _ (by omega)).trans h.M,h.B.trans (hb.mono (by omega)),h.len,h.bd⟩
theorem DigInv.lt {w wr : World} {a : List Int} (h : DigInv w wr a) : w.heap.size + 2 ≤ wr.heap.size := blk_lt h.M
theorem eat_inv {w wr : World} {a : List Int} (h : DigInv w wr a) (x : Int) (hx0 : 0 ≤ x) (hx1 : x ≤ 255) :
  Calls Try.prog 117 #[.int .u8 x,.pointer (some ⟨w.heap.size,0,none⟩),.pointer (some ⟨w.heap.size + 1,0,none⟩)] wr fun e w' => e = .returned (.tuple #[]) ∧ DigInv w w' (dgMix a x) ∧ OnlyB wr w' w.heap.size :=
 (eat_calls x a h.len h.bd _ _ wr hx0 hx1 h.A h.M (by omega)).mono fun e w' ⟨he,h1,h2⟩ => ⟨he,h.to hx0 h1 h2,h2⟩
theorem DigInv.start (w : World) : DigInv w ((w.alloc (.cells #[.int .i64 11,.int .i64 22,.int .i64 33,.int .i64 44] 113)).alloc (.cells #[.int .i64 1103515245,.int .i64 69069,.int .i64 1664525,.int .i64 22695477] 113)) [11,22,33,44] :=
 ⟨zq (blk_new w _) _,by have := blk_new (w.alloc (.cells #[.int .i64 11,.int .i64 22,.int .i64 33,.int .i64 44] 113)) (.cells (nums .i64 mulT).toArray 113 (0,0));simpa [nums,mulT] using this,((Below.refl _ _).alloc (Nat.le_refl _) _).alloc (by simp) _,rfl,by decide⟩
theorem rd_mem {l : List Int} {k : Nat} (h : k < l.length) : rd l k ∈ l := by
 simp [rd,List.getD_eq_getElem?_getD,List.getElem?_eq_getElem h]
theorem take_snoc_rd {l : List Int} {k : Nat} (h : k < l.length) : l.take (k + 1) = l.take k ++ [rd l k] := by
 rw [List.take_succ_eq_append_getElem h];simp [rd,List.getD_eq_getElem?_getD,List.getElem?_eq_getElem h]
theorem dgAll_nil (a : List Int) : dgAll a [] = a := rfl
theorem dgAll_snoc (a l : List Int) (x : Int) : dgAll a (l ++ [x]) = dgMix (dgAll a l) x := by simp [dgAll]
theorem R_only {α : Type} {d : Kd α} {e base : Nat} {w w' : World} {ok : Nat → Prop} {v : Value} {xs : List α} (h : d.R e w base ok v xs) {g : Nat} (ho : OnlyB w w' g) (hg : g < base) : d.R e w' base ok v xs :=
 Kd.R_mono (Kd.R_move (Kd.R_bound h) (fun k hk => ho.block k (by have := hk.2.1;omega))) (fun _ hk => hk.1)
theorem R_at {e base n c : Nat} {w : World} {ok : Nat → Prop} {kd : IntKind} {A : Option Addr} {xs : List Int} (h : (Kd.int kd).R e w base ok (.slice A n c) xs) (k : Nat) (hk : k < xs.length) :
  ∃ ad,A = some ad ∧ w.cell? (ad.add k) = some (.int kd (rd xs k)) := by
 obtain ⟨A',c',he,_,hC⟩ := Kd.R_reads h
 injection he with h1 h2 h3
 subst h1
 obtain ⟨ad,h4,h5⟩ := Kd.at_int hC k (by omega) (by omega)
 exact ⟨ad,h4,by simpa using h5⟩
theorem agg4_index0 (b0 b1 b2 b3 : Int) (W : World) : (Instr.index 113 (.agg #[.int .i64 b0,.int .i64 b1,.int .i64 b2,.int .i64 b3]) (.int .i64 0)).run Try.prog W = .ok (.int .i64 b0) W := by kernel_rfl
theorem agg4_index1 (b0 b1 b2 b3 : Int) (W : World) : (Instr.index 113 (.agg #[.int .i64 b0,.int .i64 b1,.int .i64 b2,.int .i64 b3]) (.int .i64 1)).run Try.prog W = .ok (.int .i64 b1) W := by kernel_rfl
theorem agg4_index2 (b0 b1 b2 b3 : Int) (W : World) : (Instr.index 113 (.agg #[.int .i64 b0,.int .i64 b1,.int .i64 b2,.int .i64 b3]) (.int .i64 2)).run Try.prog W = .ok (.int .i64 b2) W := by kernel_rfl
theorem agg4_index3 (b0 b1 b2 b3 : Int) (W : World) : (Instr.index 113 (.agg #[.int .i64 b0,.int .i64 b1,.int .i64 b2,.int .i64 b3]) (.int .i64 3)).run Try.prog W = .ok (.int .i64 b3) W := by kernel_rfl
theorem agg4_index (b0 b1 b2 b3 : Int) (k : Nat) (hk : k < 4) (W : World) : (Instr.index 113 (.agg #[.int .i64 b0,.int .i64 b1,.int .i64 b2,.int .i64 b3]) (.int .i64 (k : Int))).run Try.prog W = .ok (.int .i64 (rd [b0,b1,b2,b3] k)) W := by
 rcases k with _ | _ | _ | _ | k
 ·exact agg4_index0 b0 b1 b2 b3 W
 ·exact agg4_index1 b0 b1 b2 b3 W
 ·exact agg4_index2 b0 b1 b2 b3 W
 ·exact agg4_index3 b0 b1 b2 b3 W
 ·omega
set_option maxHeartbeats 1000000 in
set_option maxRecDepth 100000 in
theorem qqq.calls (A0 : Option Addr) (c0 : Nat) (l0 : List Int) (r : List Int) (w : World) (hr0 : Kd.C (Kd.int .u8) w A0 l0.length l0) (hc0 : l0.length ≤ c0) (h : qqq.f l0 = some r) :
  Calls Try.prog 77 #[.slice A0 l0.length c0] w fun e w' => ∃ v0_ : Value,e = .returned (v0_) ∧ Kd.R (Kd.int .u8) 5 w' w.heap.size (fun _ => True) v0_ r ∧ Below w.heap.size w w' := by
 have HR0 := qq.mk hr0
 have HC0 := qq.mk hc0
 clear hr0 hc0
 unfold qqq.f at h
 by_cases hb : isBytes l0
 case neg => rw [if_neg hb] at h;cases h
 rw [if_pos hb] at h
 have HBY := qq.mk hb
 clear hb
 by_cases hbig : (l0.length : Int) > 20000
 ·rw [if_pos hbig] at h
  cases h
 ·rw [if_neg hbig] at h
  obtain rfl := Option.some.inj h
  clear h
  go_enter Try.func77,Try.ntmps77
  go_wp2
  have HI := qq.mk (DigInv.start w)
  generalize ((w.alloc (.cells #[.int .i64 11,.int .i64 22,.int .i64 33,.int .i64 44] 113)).alloc (.cells #[.int .i64 1103515245,.int .i64 69069,.int .i64 1664525,.int .i64 22695477] 113)) = w2 at HI ⊢
  go_loopw [21] (fun i wr => ∃ k : Nat,k ≤ l0.length ∧ i = .int .i64 k ∧ qq (DigInv w wr (dgAll [11,22,33,44] (l0.take k)))) (fun i _ => l0.length - (intOf i).toNat)
  case atStart => exact ⟨0,by omega,rfl,HI⟩
  case round =>
   clear HI
   obtain ⟨k,hk,rfl,HW⟩ := hrel
   by_cases hlt : k < l0.length
   ·obtain ⟨ad,rfl,hcell⟩ := Kd.at_int (Kd.C_below HR0.out HW.out.B) k (by omega) (by omega)
    have hby := HBY.out (rd l0 k) (rd_mem hlt)
    obtain ⟨x,ex⟩ : ∃ x,x = rd l0 k := ⟨_,rfl⟩
    rw [Int.toNat_natCast] at hcell
    rw [← ex] at hcell hby
    have EX := qq.mk ex
    clear ex
    go_wp2_with (go_at_call 117;refine (eat_inv HW.out x hby.1 hby.2).mono ?_;rintro e w' ⟨rfl,HN,_⟩;replace HN := qq.mk HN)
    go_roundw
    case rel => exact ⟨k + 1,by omega,by go_num,⟨by rw [take_snoc_rd hlt,← EX.out,dgAll_snoc];exact HN.out⟩⟩
    case measure => simp [intOf];omega
   ·obtain rfl : k = l0.length := by omega
    rw [List.take_length] at HW
    clear hlt hk
    have HX := HW
    go_wp2_with (go_at_call 79;refine (qzz.calls (l0.length : Int) (yb l0.length) _ rfl).mono ?_;rintro e w1 ⟨v1,rfl,HV,HB1⟩;obtain ⟨A1,c1,rfl⟩ := Kd.R_slice HV;replace HW := qq.mk (HW.out.keep (HB1.mono HW.out.lt));replace HV := qq.mk (Kd.R_lower HV (base' := w.heap.size + 2) (DigInv.lt HX.out));clear HB1)
    clear HX
    have HYB := qq.mk (yb_bytes l0.length)
    have hyl : (yb (l0.length : Int)).length = 4 := rfl
    replace hyl := qq.mk hyl
    go_loopw [33] (fun i wr => ∃ k : Nat,k ≤ (yb l0.length).length ∧ i = .int .i64 k ∧ qq (DigInv w wr (dgAll (dgAll [11,22,33,44] l0) ((yb l0.length).take k)) ∧ Kd.R (Kd.int .u8) 5 wr (w.heap.size + 2) (fun _ => True) (.slice A1 (yb (l0.length : Int)).length c1) (yb l0.length))) (fun i _ => (yb l0.length).length - (intOf i).toNat)
    case atStart => exact ⟨0,by omega,rfl,⟨HW.out,HV.out⟩⟩
    case round =>
     clear HW HV
     obtain ⟨k,hk,rfl,HW⟩ := hrel
     by_cases hlt : k < (yb l0.length).length
     ·obtain ⟨ad,rfl,hcell⟩ := R_at HW.out.2 k hlt
      have hby := HYB.out (rd (yb l0.length) k) (rd_mem hlt)
      obtain ⟨x,ex⟩ : ∃ x,x = rd (yb l0.length) k := ⟨_,rfl⟩
      rw [← ex] at hcell hby
      have EX := qq.mk ex
      clear ex
      have hyl5 : (yb (l0.length : Int)).length ≤ 4 := Nat.le_of_eq hyl.out
      go_wp2_with (go_at_call 117;refine (eat_inv HW.out.1 x hby.1 hby.2).mono ?_;rintro e w' ⟨rfl,HN,HO⟩;replace HN := qq.mk HN;replace HO := qq.mk (R_only HW.out.2 HO (by omega)))
      go_roundw
      case rel => exact ⟨k + 1,by omega,by go_num,⟨by rw [take_snoc_rd hlt,← EX.out,dgAll_snoc];exact HN.out,HO.out⟩⟩
      case measure => simp [intOf];omega
     ·obtain rfl : k = (yb l0.length).length := by omega
      rw [List.take_length] at HW
      clear hlt hk
      replace HW := qq.mk HW.out.1
      go_wp2
      go_loopw [41] (fun i wr => ∃ k : Nat,k ≤ 8 ∧ i = .int .i64 k ∧ qq (DigInv w wr (dgAll (dgAll (dgAll [11,22,33,44] l0) (yb l0.length)) (List.replicate k 0)))) (fun i _ => 8 - (intOf i).toNat)
      case atStart => exact ⟨0,by omega,rfl,⟨by rw [List.replicate_zero,dgAll_nil];exact HW.out⟩⟩
      case round =>
       clear HW
       obtain ⟨k,hk,rfl,HW⟩ := hrel
       by_cases hlt : k < 8
       ·go_wp2_with (go_at_call 117;refine (eat_inv HW.out 0 (by omega) (by omega)).mono ?_;rintro e w' ⟨rfl,HN,HO⟩;clear HO;replace HN := qq.mk HN)
        go_roundw
        case rel => exact ⟨k + 1,by omega,by go_num,⟨by rw [List.replicate_succ',dgAll_snoc];exact HN.out⟩⟩
        case measure => simp [intOf];omega
       ·obtain rfl : k = 8 := by omega
        rw [show ((8 : Nat) : Int) = 8 from rfl]
        clear hlt hk
        replace HW : qq (DigInv w wr (dgS l0)) := HW
        obtain ⟨b0,b1,b2,b3,eb⟩ : ∃ b0 b1 b2 b3,dgS l0 = [b0,b1,b2,b3] := by
         have := HW.out.len
         match dgS l0,this with
         | [b0,b1,b2,b3],_ => exact ⟨b0,b1,b2,b3,rfl⟩
        have hb0 : wr.cell? ⟨w.heap.size,0,none⟩ = some (.int .i64 b0) := by rw [qw HW.out.A,eb];rfl
        have hb1 : wr.cell? ⟨w.heap.size,1,none⟩ = some (.int .i64 b1) := by rw [qw HW.out.A,eb];rfl
        have hb2 : wr.cell? ⟨w.heap.size,2,none⟩ = some (.int .i64 b2) := by rw [qw HW.out.A,eb];rfl
        have hb3 : wr.cell? ⟨w.heap.size,3,none⟩ = some (.int .i64 b3) := by rw [qw HW.out.A,eb];rfl
        replace eb := qq.mk eb
        go_wp2
        replace HW := qq.mk HW.out.B
        clear hb0 hb1 hb2 hb3 hbig
        go_loopw [47,10] (fun i v W => ∃ (k : Nat) (ys : List Int),k ≤ 4 ∧ i = .int .i64 k ∧ qq (ys = ([b0,b1,b2,b3].take k).flatMap yb ∧ ys.length = 4 * k ∧ Kd.R (Kd.int .u8) 5 W w.heap.size (fun _ => True) v ys ∧ Below w.heap.size w W)) (fun i _ _ => 4 - (intOf i).toNat)
        case atStart => exact ⟨0,[],by omega,rfl,⟨rfl,by simp,Kd.R_nil _ _ _ _ _,HW.out⟩⟩
        case round =>
         clear HW
         obtain ⟨k,ys,hk,rfl,HW⟩ := hrel
         obtain ⟨A2,c2,rfl⟩ := Kd.R_slice HW.out.2.2.1
         by_cases hlt : k < 4
         ·have hi := agg4_index b0 b1 b2 b3 k hlt
          obtain ⟨q,eq⟩ : ∃ q,q = rd [b0,b1,b2,b3] k := ⟨_,rfl⟩
          rw [← eq] at hi
          replace eq := qq.mk eq
          obtain ⟨zs,ez⟩ : ∃ zs,zs = yb q := ⟨_,rfl⟩
          have hz : qq (qzz.f q = some zs ∧ zs.length = 4) := ⟨by rw [ez];rfl,by rw [ez];rfl⟩
          replace ez := qq.mk ez
          go_wp2_with (first | (go_at_call 79;refine (qzz.calls q zs _ hz.out.1).mono ?_;rintro e w1 ⟨v1,rfl,HV,HB1⟩;obtain ⟨A3,c3,rfl,hc3,hC3⟩ := Kd.R_reads HV;have HW2 := qq.mk (⟨Kd.R_below HW.out.2.2.1 HB1,zv HW.out.2.2.2 HB1⟩ : _ ∧ _);replace HV := qq.mk hC3;clear hC3 HB1) | ((with_reducible refine gate_builtin (b := .append) (xs := #[.tmp 50,.tmp 52]) rfl ?_);at_builtin;refine Kd.R_append_row (Value.int .u8) 0 (w0 := w) w.heap.size rfl (.tmp 50) (.tmp 52) 22 5 (.int .u8 0) 1 rfl Try.underlying22 info5 rfl (by decide) _ ys zs _ _ _ (fun _ => True) rfl rfl (fun _ _ => trivial) HW2.out.1 HV.out HW2.out.2 HW2.out.2.size ?aL ?_;(case aL => have h1 := HW.out.2.1;have h2 := hz.out.2;omega);intro v1 w3 hr hb hg hat;replace hr := qq.mk hr;replace hb := qq.mk hb;clear hg hat))
          go_roundw
          case rel => exact ⟨k + 1,ys ++ zs,by omega,by go_num,⟨by rw [take_snoc_rd (by simpa using hlt),← eq.out,List.flatMap_append,← HW.out.1,ez.out];simp,by have h1 := HW.out.2.1;have h2 := hz.out.2;rw [List.length_append];omega,hr.out,hb.out⟩⟩
          case measure => simp [intOf];omega
         ·obtain rfl : k = 4 := by omega
          go_wp2
          go_ret
          refine ⟨_,rfl,?_,HW.out.2.2.2⟩
          have e1 := HW.out.1
          rw [List.take_of_length_le (by simp)] at e1
          have e2 : ys = dg l0 := by rw [e1,dg,eb.out]
          rw [← e2]
          exact HW.out.2.2.1
def qwx.l0 : Nat → Int → List Int → Int → Int → Option (List Int)
 | 0,_,_,_,_ => none
 | k + 1,x0,x3,x7,x8 => if x8 < x7 then (if 0 ≤ x8 then (if x8 < (x3.length : Int) then (qwx.l0 k (wrap64 (Int.tdiv x0 256)) (x3.set (x8 : Int).toNat ((Int.tmod x0 256) % 256)) x7 (wrap64 (x8 + 1))) else (none)) else (none)) else (some x3)
def qwx.f (k : Nat) (a0 : Int) : Option (List Int) := if 4 ≤ 281474976710656 then ((some (List.replicate 4 0 : List Int)).bind fun y101 => (qwx.l0 k a0 y101 (y101.length : Int) 0)) else (none)
theorem qwx.mono_l : ∀ k,(∀ y0 y1 y2 y3,LeO (qwx.l0 k y0 y1 y2 y3) (qwx.l0 (k + 1) y0 y1 y2 y3))
 | 0 => fun _ _ _ _ r h => by simp [qwx.l0] at h
 | k + 1 => by
  have ih0 := qwx.mono_l k
  ·intro y0 y1 y2 y3
   unfold qwx.l0
   repeat' first
   | (with_reducible exact ih0 _ _ _ _)
   | (with_reducible exact LeO.refl _)
   | (with_reducible exact LeO.none _)
   | (with_reducible refine LeO.ite ?_ ?_)
   | (with_reducible refine LeO.bind ?_ (fun _ => ?_))
   | exact ih0 _ _ _ _
   | exact LeO.none _
   | refine LeO.ite ?_ ?_
   | refine LeO.bind ?_ (fun _ => ?_)
theorem qwx.mono : ∀ a0 k,LeO (qwx.f k a0) (qwx.f (k + 1) a0) := by
 intro a0 k
 have ih0 := qwx.mono_l k
 unfold qwx.f
 repeat' first
   | (with_reducible exact ih0 _ _ _ _)
   | (with_reducible exact LeO.refl _)
   | (with_reducible exact LeO.none _)
   | (with_reducible refine LeO.ite ?_ ?_)
   | (with_reducible refine LeO.bind ?_ (fun _ => ?_))
   | exact ih0 _ _ _ _
   | exact LeO.none _
   | refine LeO.ite ?_ ?_
   | refine LeO.bind ?_ (fun _ => ?_)
set_option maxHeartbeats 8000000 in
set_option maxRecDepth 100000 in
theorem qwx.calls (k : Nat) (a0 : Int) (r : List Int) (w : World) (h : qwx.f k a0 = some r) :
  Calls Try.prog 115 #[.int .i64 a0] w fun e w' => ∃ v0_ : Value,e = .returned (v0_) ∧ Kd.R (Kd.int .u8) 5 w' w.heap.size (fun _ => True) v0_ r ∧ Below w.heap.size w w' := by
 have HB := qq.mk (Below.refl w.heap.size w)
 have H : (if 4 ≤ 281474976710656 then ((some (List.replicate 4 0 : List Int)).bind fun y101 => (qwx.l0 k a0 y101 (y101.length : Int) 0)) else (none)) = some r := h
 clear h
 by_cases c2 : 4 ≤ 281474976710656
 ·rw [if_pos c2] at H
  have c2b0 := eq_true c2
  have c2b1 : decide (4 ≤ 281474976710656) = true := decide_eq_true c2
  clear c2
  obtain ⟨y101,hy101⟩ : ∃ y_ : List Int,y_ = (List.replicate 4 0) := ⟨_,rfl⟩
  replace H : (qwx.l0 k a0 y101 (y101.length : Int) 0) = some r := by first | (rw [hy101];with_reducible exact H) | (have H2_ := (Option.bind_some _ _).symm.trans H;rw [hy101];with_reducible exact H2_) | (have H2_ := (Option.bind_some _ _).symm.trans H;with_reducible exact H2_) | with_reducible exact H | (rw [hy101];exact H) | exact H
  have Ny101 := qq.mk hy101
  clear hy101
  have H' := qq.mk H
  clear H
  go_enter Try.func115,Try.ntmps115
  go_wp2_with (first | ((with_reducible refine gate_dst (N := 5) rfl ?_);refine Kd.R_make (Kd.int .u8) _ 5 rfl (N := 5) rfl 22 _ _ rfl 4 rfl rfl Try.underlying22 (.int .u8 0) 1 info5 rfl (by decide) (by omega) 0 (ok := fun _ => True) (okp := fun _ => True) rfl (fun _ hk => hk) trivial (by omega) (by omega) (Below.refl _ _) (Nat.le_refl _) ?_;intro v102 w3 ho4 hb hg_ hnew_;clear hg_ hnew_;(first | rw [← Ny101.out] at ho4 | (simp only [Int.reduceToNat] at ho4;rw [← Ny101.out] at ho4));have n0_ := qq.mk (Kd.R_lower ho4 (zw (by repeat (first | (with_reducible first | exact HB.out | apply qj | apply qz | apply qk) | exact HB.out))));have n1_ := qq.mk (zv (by repeat (first | (with_reducible first | exact HB.out | apply qj | apply qz | apply qk) | exact HB.out)) hb);clear HB;have HO103 := n0_;have HB := n1_;clear n0_ n1_;clear hb ho4;obtain ⟨Ao5,co5,eo5⟩ := Kd.R_slice HO103.out;subst eo5))
  go_loopg [0,8] k (fun kq v0 v8 w' => ∃ (x0_1 : Int) (x3_1 : List Int) (x8_1 : Int),v0 = .int .i64 x0_1 ∧ v8 = .int .i64 x8_1 ∧ qq (qwx.l0 kq x0_1 x3_1 (y101.length : Int) x8_1 = some r) ∧ qq (kq ≤ k) ∧ qq (Kd.R (Kd.int .u8) 5 w' w.heap.size (fun _ => True) (.slice Ao5 y101.length co5) x3_1) ∧ qq (Below w.heap.size w w'))
  case atStart => exact ⟨(a0),(y101),(0),(by first | rfl | (simp;done) | (simp [*];done)),(by first | rfl | (simp;done) | (simp [*];done)),H',⟨Nat.le_refl _⟩,⟨by (with_reducible repeat (first | apply Kd.jq | apply Kd.zx | apply Kd.jz));exact HO103.out⟩,⟨by repeat (first | (with_reducible first | exact HB.out | apply qj | apply qz | apply qk) | exact HB.out)⟩⟩
  case round =>
   clear H'
   try clear c1
   try clear c2
   try clear c2b0
   try clear c2b1
   try clear p2
   obtain ⟨x0_1,x3_1,x8_1,rfl,rfl,HA,HK1,HO_3,HB⟩ := hrel
   have hl3_1 := (Kd.R_reads' HO_3.out).1
   rw [hl3_1] at HO_3
   (try simp only [hl3_1])
   cases gk with
   | zero => exact absurd HA.out (by simp [qwx.l0])
   | succ k1 =>
    have H := HA.out
    clear HA
    simp only [qwx.l0] at H
    by_cases c6 : x8_1 < (y101.length : Int)
    ·rw [if_pos c6] at H
     have c6b0 : decide (x8_1 < (y101.length : Int)) = true := decide_eq_true c6
     clear c6
     by_cases c7 : 0 ≤ x8_1
     ·rw [if_pos c7] at H
      have c7b0 : decide (0 ≤ x8_1) = true := decide_eq_true c7
      clear c7
      by_cases c8 : x8_1 < (x3_1.length : Int)
      ·rw [if_pos c8] at H
       have c8b0 : decide (x8_1 < (x3_1.length : Int)) = true := decide_eq_true c8
       clear c8
       obtain ⟨y104,hy104⟩ : ∃ y_ : List Int,y_ = (x3_1.set (x8_1 : Int).toNat ((Int.tmod x0_1 256) % 256)) := ⟨_,rfl⟩
       replace H : (qwx.l0 k1 (wrap64 (Int.tdiv x0_1 256)) y104 (y101.length : Int) (wrap64 (x8_1 + 1))) = some r := by first | (rw [hy104];with_reducible exact H) | (have H2_ := (Option.bind_some _ _).symm.trans H;rw [hy104];with_reducible exact H2_) | (have H2_ := (Option.bind_some _ _).symm.trans H;with_reducible exact H2_) | with_reducible exact H | (rw [hy104];exact H) | exact H
       have Ny104 := qq.mk hy104
       clear hy104
       have H' := qq.mk H
       clear H
       have p9 : 0 ≤ (x8_1 : Int) := of_decide_eq_true (by assumption)
       have q9 : (x8_1 : Int) < ((x3_1.length : Int) : Int) := of_decide_eq_true (by assumption)
       obtain ⟨go9,co9,eo9,gb9,gl9,cl9,HG9⟩ := Kd.R_form HO_3.out (by omega)
       (first | cases eo9 | (injection eo9 with ea_ en_ ec_;(first | subst ea_ | (injection ea_ with ea_;subst ea_));subst ec_;clear en_))
       have GB9 := qq.mk gb9
       have GG9 := qq.mk HG9
       clear gb9 gl9 HG9
       obtain ⟨hx9_0,hf9_0⟩ := Kd.R_celln 0 HO_3.out (x8_1 : Int) p9 q9
       replace p9 := eq_true p9
       replace q9 := eq_true q9
       have HP10 := Kd.R_putg HO_3.out (x8_1 : Int) ((Int.tmod x0_1 256) % 256)
       go_wp2_with (first | ((with_reducible refine kk (t := 5) (p := 16) rfl ?_);refine kv (t := 5) (p := 16) (v := ?vo_w11) (w1 := (wr.setCell ⟨go9,(x8_1 : Int).toNat,none⟩ (.int .u8 ((Int.tmod x0_1 256) % 256)))) ?hg ?ho ?hn ?hr ?_;(case ho => rfl);(case hg => rfl);(case hn => rfl);(case hr => first | (go_simp;done) | (go_simp;rfl));intro w11 hw;have hg : wr.grownBy w11 (some go9) := (by rw [hw];exact HP10.2);have hp_ : Kd.R (Kd.int .u8) 5 w11 w.heap.size (fun _ => True) (.slice (some ⟨go9,0,none⟩) x3_1.length co5) y104 := (by rw [hw,Ny104.out];exact HP10.1);clear HP10;have n0_ := qq.mk (hp_);have n1_ := qq.mk ((by rw [hw];exact qx (HB.out) GB9.out : Below w.heap.size w w11));clear HO_3;clear HB;have HO_3 := n0_;have HB := n1_;clear n0_ n1_;clear hg hw hp_))
       (try simp only [← hl3_1])
       go_roundg k1
       case measure => have := HK1.out;omega
       case rel => exact ⟨(wrap64 (Int.tdiv x0_1 256)),(y104),(wrap64 (x8_1 + 1)),(by first | rfl | (simp;done) | (simp [*];done)),(by first | rfl | (simp;done) | (simp [*];done)),H',⟨by have := HK1.out;omega⟩,⟨by (try simp only [hl3_1]);(with_reducible repeat (first | apply Kd.jq | apply Kd.zx | apply Kd.jz));exact HO_3.out⟩,⟨by repeat (first | (with_reducible first | exact HB.out | apply qj | apply qz | apply qk) | exact HB.out)⟩⟩
      ·rw [if_neg c8] at H
       exact absurd H (by simp)
     ·rw [if_neg c7] at H
      exact absurd H (by simp)
    ·rw [if_neg c6] at H
     have c6b0 : decide (x8_1 < (y101.length : Int)) = false := decide_eq_false c6
     rw [hl3_1] at c6b0
     clear c6
     obtain rfl := Option.some.inj H
     go_wp2
     go_ret
     exact ⟨_,by first | rfl | (simp [*,kz,jx] <;> rfl),by (with_reducible repeat (first | apply Kd.jq | apply Kd.zx | apply Kd.jz));exact HO_3.out,by repeat (first | (with_reducible first | exact HB.out | apply qj | apply qz | apply qk) | exact HB.out)⟩
 ·rw [if_neg c2] at H
  exact absurd H (by simp)
def qxj.l0 : Nat → List Int → Int → List Int → Int → Option (List Int)
 | 0,_,_,_,_ => none
 | k + 1,x0,x1,x4,x5 => if x5 < 4 then (if 0 ≤ x5 then (if x5 < (x0.length : Int) then (if x5 < (x4.length : Int) then (if 0 ≤ (Int.tmod (wrap64 (x5 + 1)) 4) then (if (Int.tmod (wrap64 (x5 + 1)) 4) < (x0.length : Int) then (qxj.l0 k (x0.set (x5 : Int).toNat (Int.tmod (wrap64 ((wrap64 ((wrap64 ((wrap64 ((rd x0 x5) * (rd x4 x5))) + x1)) + 1)) + (rd x0 (Int.tmod (wrap64 (x5 + 1)) 4)))) 2147483579)) x1 x4 (wrap64 (x5 + 1))) else (none)) else (none)) else (none)) else (none)) else (none)) else (some x0)
def qxj.f (k : Nat) (l0 : List Int) (a1 : Int) : Option (List Int) := qxj.l0 k l0 a1 (([1103515245,69069,1664525,22695477] : List Int)) 0
theorem qxj.mono_l : ∀ k,(∀ y0 y1 y2 y3,LeO (qxj.l0 k y0 y1 y2 y3) (qxj.l0 (k + 1) y0 y1 y2 y3))
 | 0 => fun _ _ _ _ r h => by simp [qxj.l0] at h
 | k + 1 => by
  have ih0 := qxj.mono_l k
  ·intro y0 y1 y2 y3
   unfold qxj.l0
   repeat' first
   | (with_reducible exact ih0 _ _ _ _)
   | (with_reducible exact LeO.refl _)
   | (with_reducible exact LeO.none _)
   | (with_reducible refine LeO.ite ?_ ?_)
   | (with_reducible refine LeO.bind ?_ (fun _ => ?_))
   | exact ih0 _ _ _ _
   | exact LeO.none _
   | refine LeO.ite ?_ ?_
   | refine LeO.bind ?_ (fun _ => ?_)
theorem qxj.mono : ∀ a0 a1 k,LeO (qxj.f k a0 a1) (qxj.f (k + 1) a0 a1) := by
 intro a0 a1 k
 have ih0 := qxj.mono_l k
 unfold qxj.f
 repeat' first
   | (with_reducible exact ih0 _ _ _ _)
   | (with_reducible exact LeO.refl _)
   | (with_reducible exact LeO.none _)
   | (with_reducible refine LeO.ite ?_ ?_)
   | (with_reducible refine LeO.bind ?_ (fun _ => ?_))
   | exact ih0 _ _ _ _
   | exact LeO.none _
   | refine LeO.ite ?_ ?_
   | refine LeO.bind ?_ (fun _ => ?_)
def qxj.T4 : Bool × List (List Nat × List Nat) := (true,[([],[]),([],[]),([],[]),([],[]),([2,3],[2,3]),([4],[4]),([],[]),([],[]),([6,7],[6,7]),([8],[8]),([5,9],[5,9]),([],[]),([10,11],[10,11]),([12],[12]),([],[]),([],[]),([15],[15]),([16],[16]),([14,17],[14,17]),([18],[18]),([13,19],[13,19]),([20],[20]),([0,1,0,1,2,3,4,5,6,7,8,9,10,11,12,13,14,15,16,17,18,19,20,21],[0,1]),([22,21,0,1,2,3,4,5,6,7,8,9,10,11,12,13,14,15,16,17,18,19,20,21],[21,22])])
def qxj.B4 : List Nat := [0,0,0,0,12,28,0,0,192,448,1020,0,4092,8188,0,0,32768,98304,245760,507904,1048572,2097148,4194303,8388607]
theorem qxj.tab4 : rtab .any (opsOf Try.f137 4) = qxj.T4 := by kernel_rfl
theorem qxj.bits4 : waitsOk qxj.T4.2 qxj.B4 = true := by kernel_rfl
set_option maxHeartbeats 8000000 in
set_option maxRecDepth 100000 in
theorem qxj.calls (k : Nat) (P0_ : Nat → Prop) (u9000_ : Value) (l0 : List Int) (a1 : Int) (r : List Int) (w0 w : World) (hB : Below w0.heap.size w0 w) (ho0 : Kd.R (Kd.int .i64) 3 w w0.heap.size P0_ u9000_ l0) (h : qxj.f k l0 a1 = some r) :
  Calls Try.prog 137 #[u9000_,.int .i64 a1] w fun e w' => e = .returned (.tuple #[]) ∧ Kd.R (Kd.int .i64) 3 w' w0.heap.size (fun k_ => (P0_ k_ ∨ w.heap.size ≤ k_)) u9000_ r ∧ Below w0.heap.size w0 w' ∧ kw w w' (fun k_ => P0_ k_) := by
 have HO0 := qq.mk (show Kd.R (Kd.int .i64) 3 w w0.heap.size (fun k_ => (P0_ k_ ∨ w.heap.size ≤ k_)) u9000_ l0 from Kd.R_mono ho0 (fun k_ hk => (.inl hk)))
 have HK := qq.mk (kw.refl w (fun k_ => P0_ k_))
 have HW0 := qq.mk hB.size
 have HB := qq.mk hB
 clear hB
 have H : (qxj.l0 k l0 a1 (([1103515245,69069,1664525,22695477] : List Int)) 0) = some r := h
 clear h
 obtain ⟨y101,hy101⟩ : ∃ y_ : List Int,y_ = (([1103515245,69069,1664525,22695477] : List Int)) := ⟨_,rfl⟩
 replace H : (qxj.l0 k l0 a1 y101 0) = some r := by first | (rw [hy101];with_reducible exact H) | (have H2_ := (Option.bind_some _ _).symm.trans H;rw [hy101];with_reducible exact H2_) | (have H2_ := (Option.bind_some _ _).symm.trans H;with_reducible exact H2_) | with_reducible exact H | (rw [hy101];exact H) | exact H
 have Ny101 := qq.mk hy101
 clear hy101
 have H' := qq.mk H
 clear H
 go_enter Try.func137,Try.ntmps137
 go_wp2_with (first | ((with_reducible refine gate_dst (N := 6) rfl ?_);refine Kd.R_lit (Kd.int .i64) _ 3 ?hg (N := 6) ?hd (xs := ([1103515245,69069,1664525,22695477] : List Int)) (inner := [.int .i64 1103515245,.int .i64 69069,.int .i64 1664525,.int .i64 22695477]) (ok := fun _ => True) (okp := fun _ => True) ?hr ?hp (fun _ hk => hk) trivial (Below.refl _ _) (Nat.le_refl _) (by simp) ?_;(case hd => rfl);(case hg => rfl);(case hr => first | (go_simp;done) | (go_simp;rfl));(case hp => exact (Reps.one (show Kd.M (Kd.int .i64) _ _ _ 1103515245 [.int .i64 1103515245] from rfl) (Reps.one (show Kd.M (Kd.int .i64) _ _ _ 69069 [.int .i64 69069] from rfl) (Reps.one (show Kd.M (Kd.int .i64) _ _ _ 1664525 [.int .i64 1664525] from rfl) (Reps.one (show Kd.M (Kd.int .i64) _ _ _ 22695477 [.int .i64 22695477] from rfl) (Reps.none _ _))))));intro v102 w3 ho4 hb hg_ hnew_;clear hg_ hnew_;(first | rw [← Ny101.out] at ho4 | (simp only [Int.reduceToNat] at ho4;rw [← Ny101.out] at ho4));have n0_ := qq.mk (Kd.R_elder' (by (with_reducible repeat (first | apply Kd.jq | apply Kd.zx | apply Kd.jz));exact HO0.out) (Kd.R_base ho4) hb);have n1_ := qq.mk (Kd.R_lower (Kd.R_new' (Kd.R_newM (M := fun k_ => (P0_ k_ ∨ w.heap.size ≤ k_)) ho4 (by first | exact HK.out.1 | exact (show kw w _ (fun k_ => P0_ k_) from by repeat (first | (with_reducible first | exact HK.out | apply kw.alloc | apply kw.drewN | apply kw.drew) | exact HK.out)).1) (fun k_ h_ => .inr h_)) (Kd.R_lt (by (with_reducible repeat (first | apply Kd.jq | apply Kd.zx | apply Kd.jz));exact HO0.out))) (zw (by repeat (first | (with_reducible first | exact HB.out | apply qj | apply qz | apply qk) | exact HB.out))));have n2_ := qq.mk (kw.below (S := (fun k_ => P0_ k_)) (by repeat (first | (with_reducible first | exact HK.out | apply kw.alloc | apply kw.drewN | apply kw.drew) | exact HK.out)) hb);have n3_ := qq.mk (zv (by repeat (first | (with_reducible first | exact HB.out | apply qj | apply qz | apply qk) | exact HB.out)) hb);clear HO0;clear HK;clear HB;have HO0 := n0_;have HO103 := n1_;have HK := n2_;have HB := n3_;clear n0_ n1_ n2_ n3_;clear hb ho4))
 go_loopg [5] k (fun kq v5 w' => ∃ (x0_1 : List Int) (x5_1 : Int),v5 = .int .i64 x5_1 ∧ qq (qxj.l0 kq x0_1 a1 y101 x5_1 = some r) ∧ qq (kq ≤ k) ∧ qq (Kd.R (Kd.int .i64) 3 w' w0.heap.size (fun k_ => (P0_ k_ ∨ w.heap.size ≤ k_) ∧ some k_ ≠ (v102 : Value).ownBlock) u9000_ x0_1) ∧ qq (Kd.R (Kd.int .i64) 3 w' w0.heap.size (fun k_ => (P0_ k_ ∨ w.heap.size ≤ k_) ∧ some k_ ≠ (u9000_ : Value).ownBlock) v102 y101) ∧ qq (kw w w' (fun k_ => P0_ k_)) ∧ qq (Below w0.heap.size w0 w'))
 case atStart => exact ⟨(l0),(0),(by first | rfl | (simp;done) | (simp [*];done)),H',⟨Nat.le_refl _⟩,⟨by (with_reducible repeat (first | apply Kd.jq | apply Kd.zx | apply Kd.jz));exact HO0.out⟩,⟨by (with_reducible repeat (first | apply Kd.jq | apply Kd.zx | apply Kd.jz));exact Kd.R_mono HO103.out (fun _ hk => ⟨hk.1.1,hk.2⟩)⟩,⟨by repeat (first | (with_reducible first | exact HK.out | apply kw.alloc | apply kw.drewN | apply kw.drew) | exact HK.out)⟩,⟨by repeat (first | (with_reducible first | exact HB.out | apply qj | apply qz | apply qk) | exact HB.out)⟩⟩
 case round =>
  clear H'
  try clear c1
  try clear p2
  obtain ⟨x0_1,x5_1,rfl,HA,HK1,HO_0,HO_4,HK,HB⟩ := hrel
  cases gk with
  | zero => exact absurd HA.out (by simp [qxj.l0])
  | succ k1 =>
   have H := HA.out
   clear HA
   simp only [qxj.l0] at H
   by_cases c5 : x5_1 < 4
   ·rw [if_pos c5] at H
    have c5b0 : decide (x5_1 < 4) = true := decide_eq_true c5
    clear c5
    by_cases c6 : 0 ≤ x5_1
    ·rw [if_pos c6] at H
     have c6b0 : decide (0 ≤ x5_1) = true := decide_eq_true c6
     clear c6
     by_cases c7 : x5_1 < (x0_1.length : Int)
     ·rw [if_pos c7] at H
      have c7b0 : decide (x5_1 < (x0_1.length : Int)) = true := decide_eq_true c7
      clear c7
      by_cases c8 : x5_1 < (y101.length : Int)
      ·rw [if_pos c8] at H
       have c8b0 : decide (x5_1 < (y101.length : Int)) = true := decide_eq_true c8
       clear c8
       obtain ⟨ji9,hji9⟩ : ∃ j_ : Int,(Int.tmod (wrap64 (x5_1 + 1)) 4) = j_ := ⟨_,rfl⟩
       replace H : (if 0 ≤ (ji9) then (if (ji9) < (x0_1.length : Int) then (qxj.l0 k1 (x0_1.set (x5_1 : Int).toNat (Int.tmod (wrap64 ((wrap64 ((wrap64 ((wrap64 ((rd x0_1 x5_1) * (rd y101 x5_1))) + a1)) + 1)) + (rd x0_1 (ji9)))) 2147483579)) a1 y101 (wrap64 (x5_1 + 1))) else (none)) else (none)) = some r := by first | (rw [hji9] at H;exact H) | (simp only [hji9] at H ⊢;exact H)
       by_cases c10 : 0 ≤ (ji9)
       ·rw [if_pos c10] at H
        have c10b0 : decide (0 ≤ (ji9)) = true := decide_eq_true c10
        clear c10
        by_cases c11 : (ji9) < (x0_1.length : Int)
        ·rw [if_pos c11] at H
         have c11b0 : decide ((ji9) < (x0_1.length : Int)) = true := decide_eq_true c11
         clear c11
         obtain ⟨y107,hy107⟩ : ∃ y_ : List Int,y_ = (x0_1.set (x5_1 : Int).toNat (Int.tmod (wrap64 ((wrap64 ((wrap64 ((wrap64 ((rd x0_1 x5_1) * (rd y101 x5_1))) + a1)) + 1)) + (rd x0_1 (ji9)))) 2147483579)) := ⟨_,rfl⟩
         replace H : (qxj.l0 k1 y107 a1 y101 (wrap64 (x5_1 + 1))) = some r := by first | (rw [hy107];with_reducible exact H) | (have H2_ := (Option.bind_some _ _).symm.trans H;rw [hy107];with_reducible exact H2_) | (have H2_ := (Option.bind_some _ _).symm.trans H;with_reducible exact H2_) | with_reducible exact H | (rw [hy107];exact H) | exact H
         have Ny107 := qq.mk hy107
         clear hy107
         have H' := qq.mk H
         clear H
         try go_wp2
         have n0_ := qq.mk (Kd.jz HO_0.out)
         have n1_ := qq.mk (Kd.jz HO_4.out)
         have n2_ := qq.mk (kw.drew HK.out)
         have n3_ := qq.mk (qk HB.out)
         clear HO_0
         clear HO_4
         clear HK
         clear HB
         have HO_0 := n0_
         have HO_4 := n1_
         have HK := n2_
         have HB := n3_
         clear n0_ n1_ n2_ n3_
         obtain ⟨Ao14,co14,eo14⟩ := Kd.R_slice HO_0.out
         (first | subst eo14 | (injection eo14 with f1_ f2_ f3_;have f4_ := f1_.symm;have f5_ := f3_.symm;clear f1_ f2_ f3_;subst f4_;subst f5_))
         have p104 : 0 ≤ (x5_1 : Int) := of_decide_eq_true (by assumption)
         have q104 : x5_1 < (x0_1.length : Int) := of_decide_eq_true (by assumption)
         obtain ⟨ad104,e104,hx104_0⟩ := Kd.at_int (Kd.R_reads' HO_0.out).2.2 x5_1 p104 q104
         cases e104
         replace p104 := eq_true p104
         replace q104 := eq_true q104
         obtain ⟨Ao15,co15,eo15⟩ := Kd.R_slice HO_4.out
         (first | subst eo15 | (injection eo15 with f1_ f2_ f3_;have f4_ := f1_.symm;have f5_ := f3_.symm;clear f1_ f2_ f3_;subst f4_;subst f5_))
         have p105 : 0 ≤ (x5_1 : Int) := of_decide_eq_true (by assumption)
         have q105 : x5_1 < (y101.length : Int) := of_decide_eq_true (by assumption)
         obtain ⟨ad105,e105,hx105_0⟩ := Kd.at_int (Kd.R_reads' HO_4.out).2.2 x5_1 p105 q105
         cases e105
         replace p105 := eq_true p105
         replace q105 := eq_true q105
         have p106 : 0 ≤ ((ji9) : Int) := of_decide_eq_true (by assumption)
         have q106 : (ji9) < (x0_1.length : Int) := of_decide_eq_true (by assumption)
         obtain ⟨ad106,e106,hx106_0⟩ := Kd.at_int (Kd.R_reads' HO_0.out).2.2 (ji9) p106 q106
         obtain rfl : ad104 = ad106 := (by injection e106)
         replace p106 := eq_true p106
         replace q106 := eq_true q106
         have p12 : 0 ≤ (x5_1 : Int) := of_decide_eq_true (by assumption)
         have q12 : (x5_1 : Int) < ((x0_1.length : Int) : Int) := of_decide_eq_true (by assumption)
         obtain ⟨go12,co12,eo12,gb12,gl12,cl12,HG12⟩ := Kd.R_form HO_0.out (by omega)
         (first | cases eo12 | (injection eo12 with ea_ en_ ec_;(first | subst ea_ | (injection ea_ with ea_;subst ea_));subst ec_;clear en_))
         have GB12 := qq.mk gb12
         have GG12 := qq.mk HG12
         clear gb12 gl12 HG12
         have HMgo12 := qq.mk (show (P0_ go12 ∨ w.heap.size ≤ go12) from (HO_0.out.1 _ rfl).1)
         (first | simp only [add_plain] at hx104_0 | skip)
         (first | simp only [add_plain] at hx106_0 | skip)
         obtain ⟨hx12_0,hf12_0⟩ := Kd.R_celln 0 HO_0.out (x5_1 : Int) p12 q12
         replace p12 := eq_true p12
         replace q12 := eq_true q12
         have HP16 := Kd.R_putn HO_0.out (x5_1 : Int) (Int.tmod (wrap64 ((wrap64 ((wrap64 ((wrap64 ((rd x0_1 x5_1) * (rd y101 x5_1))) + a1)) + 1)) + (rd x0_1 (ji9)))) 2147483579)
         rw [← Ny107.out] at HP16
         have HQ16 := qq.mk HP16
         clear HP16
         refine start_ (n := 24) (S := fun w' => w'.cell? ⟨go12,(x5_1).toNat,none⟩ = some (.int .i64 (rd x0_1 x5_1)) ∧ w'.cell? (ad105.add (x5_1).toNat) = some (.int .i64 (rd y101 x5_1)) ∧ w'.cell? ⟨go12,((ji9)).toNat,none⟩ = some (.int .i64 (rd x0_1 (ji9)))) (ds := [23]) #[false,false,false,false,false,false,false,false,false,false,false,false,false,false,false,false,false,false,false,false,false,false,false,false] (by kernel_rfl) rfl rfl ⟨hx104_0,hx105_0,hx106_0⟩ (fun hHeld => ?_);refine with_tabW qxj.tab4 qxj.bits4 (fun HT_ HW_ => ?_)
         generalize wr.drew = w13 at HO_0 HO_4 HK HB GG12 HQ16 hf12_0 hx104_0 hx105_0 hx106_0 hx12_0 hHeld ⊢
         refine pure_ (i := 0) (N := some 11) (v := ?_) (a' := ?_) #[true,false,false,false,false,false,false,false,false,false,false,false,false,false,false,false,false,false,false,false,false,false,false,false] rfl rfl (any_of HT_.out (by kernel_rfl)) (fun _ _ _ h => h) (Or.inl ⟨by rfl,?_⟩) ?_ ?_
         rotate_left
         ·intro w'
          go_simp
          with_reducible rfl
         rotate_left
         ·simp only [Act.put,List.setIfInBounds_toArray,List.set_cons_zero,List.set_cons_succ,i64_w,i32_w]
          rfl
         refine pure_ (i := 1) (N := some 12) (v := ?_) (a' := ?_) #[true,true,false,false,false,false,false,false,false,false,false,false,false,false,false,false,false,false,false,false,false,false,false,false] rfl rfl (any_of HT_.out (by kernel_rfl)) (fun _ _ _ h => h) (Or.inl ⟨by rfl,?_⟩) ?_ ?_
         rotate_left
         ·intro w'
          go_simp
          with_reducible rfl
         rotate_left
         ·simp only [Act.put,List.setIfInBounds_toArray,List.set_cons_zero,List.set_cons_succ,i64_w,i32_w]
          rfl
         refine pure_ (i := 2) (N := some 13) (v := ?_) (a' := ?_) #[true,true,true,false,false,false,false,false,false,false,false,false,false,false,false,false,false,false,false,false,false,false,false,false] rfl rfl (any_of HT_.out (by kernel_rfl)) (fun _ _ _ h => h) (Or.inl ⟨by rfl,?_⟩) ?_ ?_
         rotate_left
         ·intro w'
          go_simp
          with_reducible rfl
         rotate_left
         ·simp only [Act.put,List.setIfInBounds_toArray,List.set_cons_zero,List.set_cons_succ,i64_w,i32_w]
          rfl
         refine pure_ (i := 3) (N := some 14) (v := ?_) (a' := ?_) #[true,true,true,true,false,false,false,false,false,false,false,false,false,false,false,false,false,false,false,false,false,false,false,false] rfl rfl (any_of HT_.out (by kernel_rfl)) (fun _ _ _ h => h) (Or.inl ⟨by rfl,?_⟩) ?_ ?_
         rotate_left
         ·intro w'
          go_simp
          with_reducible rfl
         rotate_left
         ·simp only [Act.put,List.setIfInBounds_toArray,List.set_cons_zero,List.set_cons_succ,i64_w,i32_w]
          rfl
         refine pure_ (i := 4) (N := some 15) (v := ?_) (a' := ?_) #[true,true,true,true,true,false,false,false,false,false,false,false,false,false,false,false,false,false,false,false,false,false,false,false] rfl rfl (any_of HT_.out (by kernel_rfl)) (fun _ _ _ h => h) (Or.inl ⟨by rfl,?_⟩) ?_ ?_
         rotate_left
         ·intro w'
          go_simp
          with_reducible rfl
         rotate_left
         ·simp only [Act.put,List.setIfInBounds_toArray,List.set_cons_zero,List.set_cons_succ,i64_w,i32_w]
          rfl
         refine pure_ (i := 6) (N := some 17) (v := ?_) (a' := ?_) #[true,true,true,true,true,false,true,false,false,false,false,false,false,false,false,false,false,false,false,false,false,false,false,false] rfl rfl (any_of HT_.out (by kernel_rfl)) (fun _ _ _ h => h) (Or.inl ⟨by rfl,?_⟩) ?_ ?_
         rotate_left
         ·intro w'
          go_simp
          with_reducible rfl
         rotate_left
         ·simp only [Act.put,List.setIfInBounds_toArray,List.set_cons_zero,List.set_cons_succ,i64_w,i32_w]
          rfl
         refine pure_ (i := 7) (N := some 18) (v := ?_) (a' := ?_) #[true,true,true,true,true,false,true,true,false,false,false,false,false,false,false,false,false,false,false,false,false,false,false,false] rfl rfl (any_of HT_.out (by kernel_rfl)) (fun _ _ _ h => h) (Or.inl ⟨by rfl,?_⟩) ?_ ?_
         rotate_left
         ·intro w'
          go_simp
          with_reducible rfl
         rotate_left
         ·simp only [Act.put,List.setIfInBounds_toArray,List.set_cons_zero,List.set_cons_succ,i64_w,i32_w]
          rfl
         refine pure_ (i := 8) (N := some 19) (v := ?_) (a' := ?_) #[true,true,true,true,true,false,true,true,true,false,false,false,false,false,false,false,false,false,false,false,false,false,false,false] rfl rfl (any_of HT_.out (by kernel_rfl)) (fun _ _ _ h => h) (Or.inl ⟨by rfl,?_⟩) ?_ ?_
         rotate_left
         ·intro w'
          go_simp
          with_reducible rfl
         rotate_left
         ·simp only [Act.put,List.setIfInBounds_toArray,List.set_cons_zero,List.set_cons_succ,i64_w,i32_w]
          rfl
         refine pure_ (i := 11) (N := some 22) (v := ?_) (a' := ?_) #[true,true,true,true,true,false,true,true,true,false,false,true,false,false,false,false,false,false,false,false,false,false,false,false] rfl rfl (any_of HT_.out (by kernel_rfl)) (fun _ _ _ h => h) (Or.inl ⟨by rfl,?_⟩) ?_ ?_
         rotate_left
         ·intro w'
          go_simp
          with_reducible rfl
         rotate_left
         ·simp only [Act.put,List.setIfInBounds_toArray,List.set_cons_zero,List.set_cons_succ,i64_w,i32_w]
          rfl
         refine pure_ (i := 14) (N := some 25) (v := ?_) (a' := ?_) #[true,true,true,true,true,false,true,true,true,false,false,true,false,false,true,false,false,false,false,false,false,false,false,false] rfl rfl (any_of HT_.out (by kernel_rfl)) (fun _ _ _ h => h) (Or.inl ⟨by rfl,?_⟩) ?_ ?_
         rotate_left
         ·intro w'
          go_simp
          with_reducible rfl
         rotate_left
         ·simp only [Act.put,List.setIfInBounds_toArray,List.set_cons_zero,List.set_cons_succ,i64_w,i32_w]
          rfl
         refine pure_ (i := 15) (N := some 26) (v := ?_) (a' := ?_) #[true,true,true,true,true,false,true,true,true,false,false,true,false,false,true,true,false,false,false,false,false,false,false,false] rfl rfl (any_of HT_.out (by kernel_rfl)) (fun _ _ _ h => h) (Or.inl ⟨by rfl,?_⟩) ?_ ?_
         rotate_left
         ·intro w'
          go_simp
          with_reducible rfl
         rotate_left
         ·simp only [Act.put,List.setIfInBounds_toArray,List.set_cons_zero,List.set_cons_succ,i64_w,i32_w]
          rfl
         refine pure_ (i := 16) (N := some 27) (v := ?_) (a' := ?_) #[true,true,true,true,true,false,true,true,true,false,false,true,false,false,true,true,true,false,false,false,false,false,false,false] rfl rfl (any_of HT_.out (by kernel_rfl)) (fun _ _ _ h => h) (Or.inl ⟨by rfl,?_⟩) ?_ ?_
         rotate_left
         ·intro w'
          go_simp
          with_reducible rfl
         rotate_left
         ·simp only [Act.put,List.setIfInBounds_toArray,List.set_cons_zero,List.set_cons_succ,i64_w,i32_w]
          rfl
         refine pure_ (i := 17) (N := some 28) (v := ?_) (a' := ?_) #[true,true,true,true,true,false,true,true,true,false,false,true,false,false,true,true,true,true,false,false,false,false,false,false] rfl rfl (any_of HT_.out (by kernel_rfl)) (fun _ _ _ h => h) (Or.inl ⟨by rfl,?_⟩) ?_ ?_
         rotate_left
         ·intro w'
          go_simp
          with_reducible rfl
         rotate_left
         ·simp only [Act.put,List.setIfInBounds_toArray,List.set_cons_zero,List.set_cons_succ,i64_w,i32_w]
          rfl
         refine pure_ (i := 18) (N := some 29) (v := ?_) (a' := ?_) #[true,true,true,true,true,false,true,true,true,false,false,true,false,false,true,true,true,true,true,false,false,false,false,false] rfl rfl (any_of HT_.out (by kernel_rfl)) (fun _ _ _ h => h) (Or.inl ⟨by rfl,?_⟩) ?_ ?_
         rotate_left
         ·intro w'
          go_simp
          with_reducible rfl
         rotate_left
         ·simp only [Act.put,List.setIfInBounds_toArray,List.set_cons_zero,List.set_cons_succ,i64_w,i32_w]
          rfl
         refine take_ (i := 5) (N := some 16) (v := ?_) (a' := ?_) #[true,true,true,true,true,true,true,true,true,false,false,true,false,false,true,true,true,true,true,false,false,false,false,false] rfl rfl (take_ofW HT_.out HW_.out (by kernel_rfl)) (fun _ _ _ h => h) (Or.inl ⟨by rfl,?_⟩) hHeld ?_ ?_
         rotate_left
         ·rintro w' ⟨s0,s1,s2⟩
          go_simp
          with_reducible rfl
         rotate_left
         ·simp only [Act.put,List.setIfInBounds_toArray,List.set_cons_zero,List.set_cons_succ,i64_w,i32_w]
          rfl
         refine take_ (i := 9) (N := some 20) (v := ?_) (a' := ?_) #[true,true,true,true,true,true,true,true,true,true,false,true,false,false,true,true,true,true,true,false,false,false,false,false] rfl rfl (take_ofW HT_.out HW_.out (by kernel_rfl)) (fun _ _ _ h => h) (Or.inl ⟨by rfl,?_⟩) hHeld ?_ ?_
         rotate_left
         ·rintro w' ⟨s0,s1,s2⟩
          go_simp
          with_reducible rfl
         rotate_left
         ·simp only [Act.put,List.setIfInBounds_toArray,List.set_cons_zero,List.set_cons_succ,i64_w,i32_w]
          rfl
         refine pure_ (i := 10) (N := some 21) (v := ?_) (a' := ?_) #[true,true,true,true,true,true,true,true,true,true,true,true,false,false,true,true,true,true,true,false,false,false,false,false] rfl rfl (any_of HT_.out (by kernel_rfl)) (fun _ _ _ h => h) (Or.inl ⟨by rfl,?_⟩) ?_ ?_
         rotate_left
         ·intro w'
          go_simp
          with_reducible rfl
         rotate_left
         ·simp only [Act.put,List.setIfInBounds_toArray,List.set_cons_zero,List.set_cons_succ,i64_w,i32_w]
          rfl
         refine pure_ (i := 12) (N := some 23) (v := ?_) (a' := ?_) #[true,true,true,true,true,true,true,true,true,true,true,true,true,false,true,true,true,true,true,false,false,false,false,false] rfl rfl (any_of HT_.out (by kernel_rfl)) (fun _ _ _ h => h) (Or.inl ⟨by rfl,?_⟩) ?_ ?_
         rotate_left
         ·intro w'
          go_simp
          with_reducible rfl
         rotate_left
         ·simp only [Act.put,List.setIfInBounds_toArray,List.set_cons_zero,List.set_cons_succ,i64_w,i32_w]
          rfl
         refine pure_ (i := 13) (N := some 24) (v := ?_) (a' := ?_) #[true,true,true,true,true,true,true,true,true,true,true,true,true,true,true,true,true,true,true,false,false,false,false,false] rfl rfl (any_of HT_.out (by kernel_rfl)) (fun _ _ _ h => h) (Or.inl ⟨by rfl,?_⟩) ?_ ?_
         rotate_left
         ·intro w'
          go_simp
          with_reducible rfl
         rotate_left
         ·simp only [Act.put,List.setIfInBounds_toArray,List.set_cons_zero,List.set_cons_succ,i64_w,i32_w]
          rfl
         refine take_ (i := 19) (N := some 30) (v := ?_) (a' := ?_) #[true,true,true,true,true,true,true,true,true,true,true,true,true,true,true,true,true,true,true,true,false,false,false,false] rfl rfl (take_ofW HT_.out HW_.out (by kernel_rfl)) (fun _ _ _ h => h) (Or.inl ⟨by rfl,?_⟩) hHeld ?_ ?_
         rotate_left
         ·rintro w' ⟨s0,s1,s2⟩
          go_simp
          with_reducible rfl
         rotate_left
         ·simp only [Act.put,List.setIfInBounds_toArray,List.set_cons_zero,List.set_cons_succ,i64_w,i32_w]
          rfl
         refine pure_ (i := 20) (N := some 31) (v := ?_) (a' := ?_) #[true,true,true,true,true,true,true,true,true,true,true,true,true,true,true,true,true,true,true,true,true,false,false,false] rfl rfl (any_of HT_.out (by kernel_rfl)) (fun _ _ _ h => h) (Or.inl ⟨by rfl,?_⟩) ?_ ?_
         rotate_left
         ·intro w'
          go_simp
          with_reducible rfl
         rotate_left
         ·simp only [Act.put,List.setIfInBounds_toArray,List.set_cons_zero,List.set_cons_succ,i64_w,i32_w]
          rfl
         refine pure_ (i := 21) (N := some 32) (v := ?_) (a' := ?_) #[true,true,true,true,true,true,true,true,true,true,true,true,true,true,true,true,true,true,true,true,true,true,false,false] rfl rfl (any_of HT_.out (by kernel_rfl)) (fun _ _ _ h => h) (Or.inl ⟨by rfl,?_⟩) ?_ ?_
         rotate_left
         ·intro w'
          go_simp
          with_reducible rfl
         rotate_left
         ·simp only [Act.put,List.setIfInBounds_toArray,List.set_cons_zero,List.set_cons_succ,i64_w,i32_w]
          rfl
         refine pure_ (i := 22) (N := some 33) (v := ?_) (a' := ?_) #[true,true,true,true,true,true,true,true,true,true,true,true,true,true,true,true,true,true,true,true,true,true,true,false] rfl rfl (any_of HT_.out (by kernel_rfl)) (fun _ _ _ h => h) (Or.inl ⟨by rfl,?_⟩) ?_ ?_
         rotate_left
         ·intro w'
          go_simp
          with_reducible rfl
         rotate_left
         ·simp only [Act.put,List.setIfInBounds_toArray,List.set_cons_zero,List.set_cons_succ,i64_w,i32_w]
          rfl
         refine last_ (i := 23) (N := none) #[true,true,true,true,true,true,true,true,true,true,true,true,true,true,true,true,true,true,true,true,true,true,true,true] rfl rfl (one_of HT_.out (by kernel_rfl)) (by decide) (fun K hK => ?_)
         refine skip_ (w1 := ?_) (by rfl) rfl ?_ ?_
         rotate_left
         ·go_simp
          rfl
         refine hK.out _ _ ?_
         clear hK K
         refine done_ (done_of HT_.out (by kernel_rfl)) ?_
         try go_wp2
         go_roundg k1
         case measure => have := HK1.out;omega
         case rel => exact ⟨(y107),(wrap64 (x5_1 + 1)),(by first | rfl | (simp;done) | (simp [*];done)),H',⟨by have := HK1.out;omega⟩,⟨by (with_reducible repeat (first | apply Kd.jq | apply Kd.zx | apply Kd.jz));exact HQ16.out⟩,⟨by (with_reducible repeat (first | apply Kd.jq | apply Kd.zx | apply Kd.jz));exact Kd.R_mono (Kd.R_far (p := ⟨go12,(x5_1 : Int).toNat,none⟩) (Kd.R_mono HO_4.out (fun k_ hk => (⟨hk,fun e_ => hk.2 (by rw [e_];rfl)⟩ : _ ∧ k_ ≠ go12))) (fun _ hk => hk.2) (.int .i64 (Int.tmod (wrap64 ((wrap64 ((wrap64 ((wrap64 ((rd x0_1 x5_1) * (rd y101 x5_1))) + a1)) + 1)) + (rd x0_1 (ji9)))) 2147483579))) (fun _ hk => ⟨hk.1.1,hk.1.2⟩)⟩,⟨by repeat (first | (with_reducible first | exact HK.out | apply kw.alloc | apply kw.drewN | apply kw.drew | refine kw.setCell ?_ HMgo12.out _) | exact HK.out)⟩,⟨by repeat (first | (with_reducible first | exact HB.out | apply qj | apply qz | apply qk | refine qx ?_ GB12.out) | exact HB.out)⟩⟩
        ·rw [if_neg c11] at H
         exact absurd H (by simp)
       ·rw [if_neg c10] at H
        exact absurd H (by simp)
      ·rw [if_neg c8] at H
       exact absurd H (by simp)
     ·rw [if_neg c7] at H
      exact absurd H (by simp)
    ·rw [if_neg c6] at H
     exact absurd H (by simp)
   ·rw [if_neg c5] at H
    have c5b0 : decide (x5_1 < 4) = false := decide_eq_false c5
    clear c5
    obtain rfl := Option.some.inj H
    go_wp2
    first | go_end0 | ((try simp only [Exit.inBlock,Exit.then]);refine bodyPost_ret (results_none rfl _ _ _) rfl ?_)
    exact ⟨by first | rfl | (simp [*,kz,jx] <;> rfl),by (with_reducible repeat (first | apply Kd.jq | apply Kd.zx | apply Kd.jz));exact Kd.R_mono HO_0.out (fun _ hk => hk.1),by repeat (first | (with_reducible first | exact HB.out | apply qj | apply qz | apply qk) | exact HB.out),by repeat (first | (with_reducible first | exact HK.out | apply kw.alloc | apply kw.drewN | apply kw.drew) | exact HK.out)⟩
mutual
def qxq.l0 : Nat → List Int → List Int → List Int → Int → Int → Option (List Int)
 | 0,_,_,_,_,_ => none
 | k + 1,x0,x3,x13,x14,x15 => if x15 < x14 then (if 0 ≤ x15 then (if x15 < (x13.length : Int) then ((qxj.f k x3 (wrap64 (rd x13 x15))).bind fun t105 => (qxq.l0 k x0 t105 x13 x14 (wrap64 (x15 + 1)))) else (none)) else (none)) else ((qwx.f k (x0.length : Int)).bind fun t106 => (qxq.l1 k x3 t106 (t106.length : Int) 0))
def qxq.l1 : Nat → List Int → List Int → Int → Int → Option (List Int)
 | 0,_,_,_,_ => none
 | k + 1,x3,x26,x27,x28 => if x28 < x27 then (if 0 ≤ x28 then (if x28 < (x26.length : Int) then ((qxj.f k x3 (wrap64 (rd x26 x28))).bind fun t110 => (qxq.l1 k t110 x26 x27 (wrap64 (x28 + 1)))) else (none)) else (none)) else (qxq.l2 k x3 0)
def qxq.l2 : Nat → List Int → Int → Option (List Int)
 | 0,_,_ => none
 | k + 1,x3,x8 => if x8 < 8 then ((qxj.f k x3 0).bind fun t111 => (qxq.l2 k t111 (wrap64 (x8 + 1)))) else (qxq.l3 k ([] : List Int) x3 (x3.length : Int) 0)
def qxq.l3 : Nat → List Int → List Int → Int → Int → Option (List Int)
 | 0,_,_,_,_ => none
 | k + 1,x9,x43,x44,x45 => if x45 < x44 then (if 0 ≤ x45 then (if x45 < (x43.length : Int) then ((qwx.f k (rd x43 x45)).bind fun t113 => (if x9.length + t113.length < 140737488355328 then (qxq.l3 k (x9 ++ t113) x43 x44 (wrap64 (x45 + 1))) else (none))) else (none)) else (none)) else (some x9)
end
def qxq.f (k : Nat) (l0 : List Int) : Option (List Int) := qxq.l0 k l0 (([11,22,33,44] : List Int)) l0 (l0.length : Int) 0
theorem qxq.mono_l : ∀ k,(∀ y0 y1 y2 y3 y4,LeO (qxq.l0 k y0 y1 y2 y3 y4) (qxq.l0 (k + 1) y0 y1 y2 y3 y4)) ∧ (∀ y0 y1 y2 y3,LeO (qxq.l1 k y0 y1 y2 y3) (qxq.l1 (k + 1) y0 y1 y2 y3)) ∧ (∀ y0 y1,LeO (qxq.l2 k y0 y1) (qxq.l2 (k + 1) y0 y1)) ∧ (∀ y0 y1 y2 y3,LeO (qxq.l3 k y0 y1 y2 y3) (qxq.l3 (k + 1) y0 y1 y2 y3))
 | 0 => ⟨fun _ _ _ _ _ r h => by simp [qxq.l0] at h,fun _ _ _ _ r h => by simp [qxq.l1] at h,fun _ _ r h => by simp [qxq.l2] at h,fun _ _ _ _ r h => by simp [qxq.l3] at h⟩
 | k + 1 => by
  obtain ⟨ih0,ih1,ih2,ih3⟩ := qxq.mono_l k
  refine ⟨?_,?_,?_,?_⟩
  ·intro y0 y1 y2 y3 y4
   unfold qxq.l0
   repeat' first
   | (with_reducible exact ih0 _ _ _ _ _)
   | (with_reducible exact ih1 _ _ _ _)
   | (with_reducible exact ih2 _ _)
   | (with_reducible exact ih3 _ _ _ _)
   | (with_reducible exact qwx.mono _ _)
   | (with_reducible exact qxj.mono _ _ _)
   | (with_reducible exact LeO.refl _)
   | (with_reducible exact LeO.none _)
   | (with_reducible refine LeO.ite ?_ ?_)
   | (with_reducible refine LeO.bind ?_ (fun _ => ?_))
   | exact ih0 _ _ _ _ _
   | exact ih1 _ _ _ _
   | exact ih2 _ _
   | exact ih3 _ _ _ _
   | exact qwx.mono _ _
   | exact qxj.mono _ _ _
   | exact LeO.none _
   | refine LeO.ite ?_ ?_
   | refine LeO.bind ?_ (fun _ => ?_)
  ·intro y0 y1 y2 y3
   unfold qxq.l1
   repeat' first
   | (with_reducible exact ih0 _ _ _ _ _)
   | (with_reducible exact ih1 _ _ _ _)
   | (with_reducible exact ih2 _ _)
   | (with_reducible exact ih3 _ _ _ _)
   | (with_reducible exact qwx.mono _ _)
   | (with_reducible exact qxj.mono _ _ _)
   | (with_reducible exact LeO.refl _)
   | (with_reducible exact LeO.none _)
   | (with_reducible refine LeO.ite ?_ ?_)
   | (with_reducible refine LeO.bind ?_ (fun _ => ?_))
   | exact ih0 _ _ _ _ _
   | exact ih1 _ _ _ _
   | exact ih2 _ _
   | exact ih3 _ _ _ _
   | exact qwx.mono _ _
   | exact qxj.mono _ _ _
   | exact LeO.none _
   | refine LeO.ite ?_ ?_
   | refine LeO.bind ?_ (fun _ => ?_)
  ·intro y0 y1
   unfold qxq.l2
   repeat' first
   | (with_reducible exact ih0 _ _ _ _ _)
   | (with_reducible exact ih1 _ _ _ _)
   | (with_reducible exact ih2 _ _)
   | (with_reducible exact ih3 _ _ _ _)
   | (with_reducible exact qwx.mono _ _)
   | (with_reducible exact qxj.mono _ _ _)
   | (with_reducible exact LeO.refl _)
   | (with_reducible exact LeO.none _)
   | (with_reducible refine LeO.ite ?_ ?_)
   | (with_reducible refine LeO.bind ?_ (fun _ => ?_))
   | exact ih0 _ _ _ _ _
   | exact ih1 _ _ _ _
   | exact ih2 _ _
   | exact ih3 _ _ _ _
   | exact qwx.mono _ _
   | exact qxj.mono _ _ _
   | exact LeO.none _
   | refine LeO.ite ?_ ?_
   | refine LeO.bind ?_ (fun _ => ?_)
  ·intro y0 y1 y2 y3
   unfold qxq.l3
   repeat' first
   | (with_reducible exact ih0 _ _ _ _ _)
   | (with_reducible exact ih1 _ _ _ _)
   | (with_reducible exact ih2 _ _)
   | (with_reducible exact ih3 _ _ _ _)
   | (with_reducible exact qwx.mono _ _)
   | (with_reducible exact qxj.mono _ _ _)
   | (with_reducible exact LeO.refl _)
   | (with_reducible exact LeO.none _)
   | (with_reducible refine LeO.ite ?_ ?_)
   | (with_reducible refine LeO.bind ?_ (fun _ => ?_))
   | exact ih0 _ _ _ _ _
   | exact ih1 _ _ _ _
   | exact ih2 _ _
   | exact ih3 _ _ _ _
   | exact qwx.mono _ _
   | exact qxj.mono _ _ _
   | exact LeO.none _
   | refine LeO.ite ?_ ?_
   | refine LeO.bind ?_ (fun _ => ?_)
theorem qxq.mono : ∀ a0 k,LeO (qxq.f k a0) (qxq.f (k + 1) a0) := by
 intro a0 k
 obtain ⟨ih0,ih1,ih2,ih3⟩ := qxq.mono_l k
 unfold qxq.f
 repeat' first
   | (with_reducible exact ih0 _ _ _ _ _)
   | (with_reducible exact ih1 _ _ _ _)
   | (with_reducible exact ih2 _ _)
   | (with_reducible exact ih3 _ _ _ _)
   | (with_reducible exact qwx.mono _ _)
   | (with_reducible exact qxj.mono _ _ _)
   | (with_reducible exact LeO.refl _)
   | (with_reducible exact LeO.none _)
   | (with_reducible refine LeO.ite ?_ ?_)
   | (with_reducible refine LeO.bind ?_ (fun _ => ?_))
   | exact ih0 _ _ _ _ _
   | exact ih1 _ _ _ _
   | exact ih2 _ _
   | exact ih3 _ _ _ _
   | exact qwx.mono _ _
   | exact qxj.mono _ _ _
   | exact LeO.none _
   | refine LeO.ite ?_ ?_
   | refine LeO.bind ?_ (fun _ => ?_)
set_option maxHeartbeats 8000000 in
set_option maxRecDepth 100000 in
theorem qxq.calls (k : Nat) (A0 : Option Addr) (c0 : Nat) (l0 : List Int) (r : List Int) (w : World) (hr0 : Kd.C (Kd.int .u8) w A0 l0.length l0) (hc0 : l0.length ≤ c0) (h : qxq.f k l0 = some r) :
  Calls Try.prog 116 #[.slice A0 l0.length c0] w fun e w' => ∃ v0_ : Value,e = .returned (v0_) ∧ Kd.R (Kd.int .u8) 5 w' w.heap.size (fun _ => True) v0_ r ∧ Below w.heap.size w w' := by
 have HR0 := qq.mk hr0
 have HC0 := qq.mk hc0
 clear hr0 hc0
 have HB := qq.mk (Below.refl w.heap.size w)
 have H : (qxq.l0 k l0 (([11,22,33,44] : List Int)) l0 (l0.length : Int) 0) = some r := h
 clear h
 obtain ⟨y101,hy101⟩ : ∃ y_ : List Int,y_ = (([11,22,33,44] : List Int)) := ⟨_,rfl⟩
 replace H : (qxq.l0 k l0 y101 l0 (l0.length : Int) 0) = some r := by first | (rw [hy101];with_reducible exact H) | (have H2_ := (Option.bind_some _ _).symm.trans H;rw [hy101];with_reducible exact H2_) | (have H2_ := (Option.bind_some _ _).symm.trans H;with_reducible exact H2_) | with_reducible exact H | (rw [hy101];exact H) | exact H
 have Ny101 := qq.mk hy101
 clear hy101
 have H' := qq.mk H
 clear H
 go_enter Try.func116,Try.ntmps116
 go_wp2_with (first | ((with_reducible refine gate_dst (N := 12) rfl ?_);refine Kd.R_lit (Kd.int .i64) _ 3 ?hg (N := 12) ?hd (xs := ([11,22,33,44] : List Int)) (inner := [.int .i64 11,.int .i64 22,.int .i64 33,.int .i64 44]) (ok := fun _ => True) (okp := fun _ => True) ?hr ?hp (fun _ hk => hk) trivial (Below.refl _ _) (Nat.le_refl _) (by simp) ?_;(case hd => rfl);(case hg => rfl);(case hr => first | (go_simp;done) | (go_simp;rfl));(case hp => exact (Reps.one (show Kd.M (Kd.int .i64) _ _ _ 11 [.int .i64 11] from rfl) (Reps.one (show Kd.M (Kd.int .i64) _ _ _ 22 [.int .i64 22] from rfl) (Reps.one (show Kd.M (Kd.int .i64) _ _ _ 33 [.int .i64 33] from rfl) (Reps.one (show Kd.M (Kd.int .i64) _ _ _ 44 [.int .i64 44] from rfl) (Reps.none _ _))))));intro v102 w2 ho3 hb hg_ hnew_;clear hg_ hnew_;(first | rw [← Ny101.out] at ho3 | (simp only [Int.reduceToNat] at ho3;rw [← Ny101.out] at ho3));have n0_ := qq.mk (Kd.R_lower ho3 (zw (by repeat (first | (with_reducible first | exact HB.out | apply qj | apply qz | apply qk) | exact HB.out))));have n1_ := qq.mk (zv (by repeat (first | (with_reducible first | exact HB.out | apply qj | apply qz | apply qk) | exact HB.out)) hb);clear HB;have HO103 := n0_;have HB := n1_;clear n0_ n1_;clear hb ho3))
 go_loopg [15] k (fun kq v15 w' => ∃ (x3_1 : List Int) (x15_1 : Int),v15 = .int .i64 x15_1 ∧ qq (qxq.l0 kq l0 x3_1 l0 (l0.length : Int) x15_1 = some r) ∧ qq (kq ≤ k) ∧ qq (Kd.R (Kd.int .i64) 3 w' w.heap.size (fun _ => True) v102 x3_1) ∧ qq (Below w.heap.size w w'))
 case atStart => exact ⟨(y101),(0),(by first | rfl | (simp;done) | (simp [*];done)),H',⟨Nat.le_refl _⟩,⟨by (with_reducible repeat (first | apply Kd.jq | apply Kd.zx | apply Kd.jz));exact HO103.out⟩,⟨by repeat (first | (with_reducible first | exact HB.out | apply qj | apply qz | apply qk) | exact HB.out)⟩⟩
 case round =>
  clear H'
  try clear c1
  try clear p2
  obtain ⟨x3_1,x15_1,rfl,HA,HK1,HO_3,HB⟩ := hrel
  cases gk with
  | zero => exact absurd HA.out (by simp [qxq.l0])
  | succ k1 =>
   have H := HA.out
   clear HA
   simp only [qxq.l0] at H
   by_cases c4 : x15_1 < (l0.length : Int)
   ·rw [if_pos c4] at H
    have c4b0 : decide (x15_1 < (l0.length : Int)) = true := decide_eq_true c4
    clear c4
    by_cases c5 : 0 ≤ x15_1
    ·rw [if_pos c5] at H
     have c5b0 : decide (0 ≤ x15_1) = true := decide_eq_true c5
     clear c5
     by_cases c6 : x15_1 < (l0.length : Int)
     ·rw [if_pos c6] at H
      have c6b0 : decide (x15_1 < (l0.length : Int)) = true := decide_eq_true c6
      clear c6
      replace H := Option.bind_eq_some_iff.mp H
      obtain ⟨t105,A70,H⟩ := H
      replace H : (qxq.l0 k1 l0 t105 l0 (l0.length : Int) (wrap64 (x15_1 + 1))) = some r := H
      have A7 := qq.mk A70
      clear A70
      have H' := qq.mk H
      clear H
      have p104 : 0 ≤ (x15_1 : Int) := of_decide_eq_true (by assumption)
      have q104 : x15_1 < (l0.length : Int) := of_decide_eq_true (by assumption)
      obtain ⟨ad104,e104,hx104_0⟩ := Kd.at_int HR0.out x15_1 p104 q104
      cases e104
      replace hx104_0 := (HB.out.cell (World.block_lt_of_cell? w _ hx104_0)).trans hx104_0
      replace p104 := eq_true p104
      replace q104 := eq_true q104
      obtain ⟨Ao8,co8,eo8⟩ := Kd.R_slice HO_3.out
      subst eo8
      go_wp2_with (first | ((with_reducible refine kj (f := 137) rfl ?_);refine goesL_ (some 22) rfl rfl Try.func137 (by kernel_rfl) rfl #[.slice Ao8 x3_1.length co8,.int .i64 (wrap64 (rd l0 x15_1))] rfl (by (try simp only [List.map_toArray,List.map_cons,List.map_nil]);first | done | rfl | (simp only [List.length_drop,List.length_take];rfl)) ?_;(with_reducible refine (qxj.calls k1 (fun k_ => some k_ = (.slice Ao8 x3_1.length co8 : Value).ownBlock) (.slice Ao8 x3_1.length co8) x3_1 (wrap64 (rd l0 x15_1)) t105 w _ ?side1 ?side2 A7.out).mono ?_);(case side1 => repeat (first | (with_reducible first | exact HB.out | apply qj | apply qz | apply qk) | exact HB.out));(case side2 => exact Kd.R_tight rfl HO_3.out);rintro e w9 ⟨rfl,hy0,hb,hkp⟩;refine ⟨_,rfl,?_⟩;have n0_ := qq.mk (Kd.R_reok rfl hy0 (fun k_ e_ => HO_3.out.1 k_ e_));have n1_ := qq.mk (hb);clear HO_3;clear HB;have HO_3 := n0_;have HB := n1_;clear n0_ n1_;(try clear hb);(try clear hkp);(try clear hy0)))
      go_roundg k1
      case measure => have := HK1.out;omega
      case rel => exact ⟨(t105),(wrap64 (x15_1 + 1)),(by first | rfl | (simp;done) | (simp [*];done)),H',⟨by have := HK1.out;omega⟩,⟨by (with_reducible repeat (first | apply Kd.jq | apply Kd.zx | apply Kd.jz));exact HO_3.out⟩,⟨by repeat (first | (with_reducible first | exact HB.out | apply qj | apply qz | apply qk) | exact HB.out)⟩⟩
     ·rw [if_neg c6] at H
      exact absurd H (by simp)
    ·rw [if_neg c5] at H
     exact absurd H (by simp)
   ·rw [if_neg c4] at H
    have c4b0 : decide (x15_1 < (l0.length : Int)) = false := decide_eq_false c4
    clear c4
    replace H := Option.bind_eq_some_iff.mp H
    obtain ⟨t106,A100,H⟩ := H
    replace H : (qxq.l1 k1 x3_1 t106 (t106.length : Int) 0) = some r := H
    have A10 := qq.mk A100
    clear A100
    have H' := qq.mk H
    clear H
    go_wp2_with (first | ((with_reducible refine kj (f := 115) rfl ?_);refine goesL_ (some 26) rfl rfl Try.func115 (by kernel_rfl) rfl #[.int .i64 (l0.length : Int)] rfl (by (try simp only [List.map_toArray,List.map_cons,List.map_nil]);first | done | rfl | (simp only [List.length_drop,List.length_take];rfl)) ?_;(with_reducible refine (qwx.calls k1 (l0.length : Int) t106 _ A10.out).mono ?_);rintro e w11 ⟨v107,rfl,ho0,hb⟩;refine ⟨_,rfl,?_⟩;have n0_ := qq.mk (Kd.R_below (by (with_reducible repeat (first | apply Kd.jq | apply Kd.zx | apply Kd.jz));exact HO_3.out) hb);have n1_ := qq.mk (Kd.R_lower ho0 (zw (by repeat (first | (with_reducible first | exact HB.out | apply qj | apply qz | apply qk) | exact HB.out))));have n2_ := qq.mk (zv (by repeat (first | (with_reducible first | exact HB.out | apply qj | apply qz | apply qk) | exact HB.out)) hb);clear HO_3;clear HB;have HO_3 := n0_;have HO108 := n1_;have HB := n2_;clear n0_ n1_ n2_;(try clear hb);(try clear hb2);(try clear hk);(try clear hi);(try clear ho0);obtain ⟨Ao12,co12,eo12⟩ := Kd.R_slice HO108.out;subst eo12))
    go_loopg [28] k1 (fun kq v28 w' => ∃ (x3_2 : List Int) (x28_2 : Int),v28 = .int .i64 x28_2 ∧ qq (qxq.l1 kq x3_2 t106 (t106.length : Int) x28_2 = some r) ∧ qq (kq ≤ k1) ∧ qq (Kd.R (Kd.int .i64) 3 w' w.heap.size (fun _ => True) v102 x3_2) ∧ qq (Kd.R (Kd.int .u8) 5 w' w.heap.size (fun _ => True) (.slice Ao12 t106.length co12) t106) ∧ qq (Below w.heap.size w w'))
    case atStart => exact ⟨(x3_1),(0),(by first | rfl | (simp;done) | (simp [*];done)),H',⟨Nat.le_refl _⟩,⟨by (with_reducible repeat (first | apply Kd.jq | apply Kd.zx | apply Kd.jz));exact HO_3.out⟩,⟨by (with_reducible repeat (first | apply Kd.jq | apply Kd.zx | apply Kd.jz));exact HO108.out⟩,⟨by repeat (first | (with_reducible first | exact HB.out | apply qj | apply qz | apply qk) | exact HB.out)⟩⟩
    case round =>
     clear H'
     try clear c1
     try clear p1
     try clear q1
     try clear hx1
     try clear p2
     try clear c4
     try clear c4b0
     try clear c5
     try clear c5b0
     try clear c6
     try clear c6b0
     try clear p6
     try clear p10
     try clear q10
     try clear hx10
     try clear c11
     try clear hx104_0
     try clear p104
     try clear p2
     try clear q104
     obtain ⟨x3_2,x28_2,rfl,HA,HK2,HO_3,HO_26,HB⟩ := hrel
     cases gk with
     | zero => exact absurd HA.out (by simp [qxq.l1])
     | succ k2 =>
      have H := HA.out
      clear HA
      simp only [qxq.l1] at H
      by_cases c13 : x28_2 < (t106.length : Int)
      ·rw [if_pos c13] at H
       have c13b0 : decide (x28_2 < (t106.length : Int)) = true := decide_eq_true c13
       clear c13
       by_cases c14 : 0 ≤ x28_2
       ·rw [if_pos c14] at H
        have c14b0 : decide (0 ≤ x28_2) = true := decide_eq_true c14
        clear c14
        by_cases c15 : x28_2 < (t106.length : Int)
        ·rw [if_pos c15] at H
         have c15b0 : decide (x28_2 < (t106.length : Int)) = true := decide_eq_true c15
         clear c15
         replace H := Option.bind_eq_some_iff.mp H
         obtain ⟨t110,A160,H⟩ := H
         replace H : (qxq.l1 k2 t110 t106 (t106.length : Int) (wrap64 (x28_2 + 1))) = some r := H
         have A16 := qq.mk A160
         clear A160
         have H' := qq.mk H
         clear H
         have p109 : 0 ≤ (x28_2 : Int) := of_decide_eq_true (by assumption)
         have q109 : x28_2 < (t106.length : Int) := of_decide_eq_true (by assumption)
         obtain ⟨ad109,e109,hx109_0⟩ := Kd.at_int (Kd.R_reads' HO_26.out).2.2 x28_2 p109 q109
         cases e109
         replace p109 := eq_true p109
         replace q109 := eq_true q109
         obtain ⟨Ao17,co17,eo17⟩ := Kd.R_slice HO_3.out
         subst eo17
         go_wp2_with (first | ((with_reducible refine kj (f := 137) rfl ?_);refine goesL_ (some 35) rfl rfl Try.func137 (by kernel_rfl) rfl #[.slice Ao17 x3_2.length co17,.int .i64 (wrap64 (rd t106 x28_2))] rfl (by (try simp only [List.map_toArray,List.map_cons,List.map_nil]);first | done | rfl | (simp only [List.length_drop,List.length_take];rfl)) ?_;(with_reducible refine (qxj.calls k2 (fun k_ => some k_ = (.slice Ao17 x3_2.length co17 : Value).ownBlock) (.slice Ao17 x3_2.length co17) x3_2 (wrap64 (rd t106 x28_2)) t110 w _ ?side1 ?side2 A16.out).mono ?_);(case side1 => repeat (first | (with_reducible first | exact HB.out | apply qj | apply qz | apply qk) | exact HB.out));(case side2 => exact Kd.R_tight rfl HO_3.out);rintro e w18 ⟨rfl,hy0,hb,hkp⟩;refine ⟨_,rfl,?_⟩;have n0_ := qq.mk (Kd.R_reok rfl hy0 (fun k_ e_ => HO_3.out.1 k_ e_));have n1_ := qq.mk (Kd.R_mono (ok' := fun k_ => True) (Kd.R_keptB ((Kd.R_apart' HO_26.out (Kd.R_typed HO_3.out) (by decide))) hkp (fun k_ hk_ hs_ => absurd hs_ (by first | exact hk_.2 | ((try simp only [and_assoc] at hk_);first | exact hk_.1 | exact hk_.2.1 | exact hk_.2.2.1 | exact hk_.2.2.2.1 | exact hk_.2.2.2.2.1 | exact hk_.2.2.2.2.2.1 | exact hk_.2.2.2.2.2.2.1 | exact hk_.2.2.2.2.2.2.2.1 | exact hk_.2.2.2.2.2.2.2.2.1 | exact hk_.2.2.2.2.2.2.2.2.2.1 | exact hk_.2.2.2.2.2.2.2.2.2.2.1 | exact hk_.2.2.2.2.2.2.2.2.2.2.2.1 | exact hk_.2.2.2.2.2.2.2.2.2.2.2.2.1 | exact hk_.2.2.2.2.2.2.2.2.2.2.2.2.2.1 | exact hk_.2.2.2.2.2.2.2.2.2.2.2.2.2.2.1 | exact hk_.2.2.2.2.2.2.2.2.2.2.2.2.2.2.2.1 | exact hk_.2 | exact hk_.2.2 | exact hk_.2.2.2 | exact hk_.2.2.2.2 | exact hk_.2.2.2.2.2 | exact hk_.2.2.2.2.2.2 | exact hk_.2.2.2.2.2.2.2 | exact hk_.2.2.2.2.2.2.2.2 | exact hk_.2.2.2.2.2.2.2.2.2 | exact hk_.2.2.2.2.2.2.2.2.2.2 | exact hk_.2.2.2.2.2.2.2.2.2.2.2 | exact hk_.2.2.2.2.2.2.2.2.2.2.2.2 | exact hk_.2.2.2.2.2.2.2.2.2.2.2.2.2 | exact hk_.2.2.2.2.2.2.2.2.2.2.2.2.2.2 | exact hk_.2.2.2.2.2.2.2.2.2.2.2.2.2.2.2)))) (fun k_ hk_ => trivial));have n2_ := qq.mk (hb);clear HO_3;clear HO_26;clear HB;have HO_3 := n0_;have HO_26 := n1_;have HB := n2_;clear n0_ n1_ n2_;(try clear hb);(try clear hkp);(try clear hy0)))
         go_roundg k2
         case measure => have := HK1.out;have := HK2.out;omega
         case rel => exact ⟨(t110),(wrap64 (x28_2 + 1)),(by first | rfl | (simp;done) | (simp [*];done)),H',⟨by have := HK1.out;have := HK2.out;omega⟩,⟨by (with_reducible repeat (first | apply Kd.jq | apply Kd.zx | apply Kd.jz));exact HO_3.out⟩,⟨by (with_reducible repeat (first | apply Kd.jq | apply Kd.zx | apply Kd.jz));exact HO_26.out⟩,⟨by repeat (first | (with_reducible first | exact HB.out | apply qj | apply qz | apply qk) | exact HB.out)⟩⟩
        ·rw [if_neg c15] at H
         exact absurd H (by simp)
       ·rw [if_neg c14] at H
        exact absurd H (by simp)
      ·rw [if_neg c13] at H
       have c13b0 : decide (x28_2 < (t106.length : Int)) = false := decide_eq_false c13
       clear c13
       have H' := qq.mk H
       clear H
       go_wp2
       go_loopg [8] k2 (fun kq v8 w' => ∃ (x3_3 : List Int) (x8_3 : Int),v8 = .int .i64 x8_3 ∧ qq (qxq.l2 kq x3_3 x8_3 = some r) ∧ qq (kq ≤ k2) ∧ qq (Kd.R (Kd.int .i64) 3 w' w.heap.size (fun _ => True) v102 x3_3) ∧ qq (Below w.heap.size w w'))
       case atStart => exact ⟨(x3_2),(0),(by first | rfl | (simp;done) | (simp [*];done)),H',⟨Nat.le_refl _⟩,⟨by (with_reducible repeat (first | apply Kd.jq | apply Kd.zx | apply Kd.jz));exact HO_3.out⟩,⟨by repeat (first | (with_reducible first | exact HB.out | apply qj | apply qz | apply qk) | exact HB.out)⟩⟩
       case round =>
        clear H'
        try clear c1
        try clear p1
        try clear q1
        try clear hx1
        try clear p2
        try clear c4
        try clear c4b0
        try clear c5
        try clear c5b0
        try clear c6
        try clear c6b0
        try clear p6
        try clear p10
        try clear q10
        try clear hx10
        try clear c11
        try clear c13
        try clear c13b0
        try clear c14
        try clear c14b0
        try clear c15
        try clear c15b0
        try clear hx104_0
        try clear hx109_0
        try clear p1
        try clear p10
        try clear p104
        try clear p109
        try clear p2
        try clear p6
        try clear q1
        try clear q10
        try clear q104
        try clear q109
        obtain ⟨x3_3,x8_3,rfl,HA,HK3,HO_3,HB⟩ := hrel
        cases gk with
        | zero => exact absurd HA.out (by simp [qxq.l2])
        | succ k3 =>
         have H := HA.out
         clear HA
         simp only [qxq.l2] at H
         by_cases c19 : x8_3 < 8
         ·rw [if_pos c19] at H
          have c19b0 : decide (x8_3 < 8) = true := decide_eq_true c19
          clear c19
          replace H := Option.bind_eq_some_iff.mp H
          obtain ⟨t111,A200,H⟩ := H
          replace H : (qxq.l2 k3 t111 (wrap64 (x8_3 + 1))) = some r := H
          have A20 := qq.mk A200
          clear A200
          have H' := qq.mk H
          clear H
          obtain ⟨Ao21,co21,eo21⟩ := Kd.R_slice HO_3.out
          subst eo21
          go_wp2_with (first | ((with_reducible refine kj (f := 137) rfl ?_);refine goesL_ (some 42) rfl rfl Try.func137 (by kernel_rfl) rfl #[.slice Ao21 x3_3.length co21,.int .i64 0] rfl (by (try simp only [List.map_toArray,List.map_cons,List.map_nil]);first | done | rfl | (simp only [List.length_drop,List.length_take];rfl)) ?_;(with_reducible refine (qxj.calls k3 (fun k_ => some k_ = (.slice Ao21 x3_3.length co21 : Value).ownBlock) (.slice Ao21 x3_3.length co21) x3_3 0 t111 w _ ?side1 ?side2 A20.out).mono ?_);(case side1 => repeat (first | (with_reducible first | exact HB.out | apply qj | apply qz | apply qk) | exact HB.out));(case side2 => exact Kd.R_tight rfl HO_3.out);rintro e w22 ⟨rfl,hy0,hb,hkp⟩;refine ⟨_,rfl,?_⟩;have n0_ := qq.mk (Kd.R_reok rfl hy0 (fun k_ e_ => HO_3.out.1 k_ e_));have n1_ := qq.mk (hb);clear HO_3;clear HB;have HO_3 := n0_;have HB := n1_;clear n0_ n1_;(try clear hb);(try clear hkp);(try clear hy0)))
          go_roundg k3
          case measure => have := HK1.out;have := HK2.out;have := HK3.out;omega
          case rel => exact ⟨(t111),(wrap64 (x8_3 + 1)),(by first | rfl | (simp;done) | (simp [*];done)),H',⟨by have := HK1.out;have := HK2.out;have := HK3.out;omega⟩,⟨by (with_reducible repeat (first | apply Kd.jq | apply Kd.zx | apply Kd.jz));exact HO_3.out⟩,⟨by repeat (first | (with_reducible first | exact HB.out | apply qj | apply qz | apply qk) | exact HB.out)⟩⟩
         ·rw [if_neg c19] at H
          have c19b0 : decide (x8_3 < 8) = false := decide_eq_false c19
          clear c19
          have H' := qq.mk H
          clear H
          obtain ⟨Ao23,co23,eo23⟩ := Kd.R_slice HO_3.out
          subst eo23
          go_wp2
          go_loopg [9,45] k3 (fun kq v9 v45 w' => ∃ (x9_4 : List Int) (x45_4 : Int),v45 = .int .i64 x45_4 ∧ qq (qxq.l3 kq x9_4 x3_3 (x3_3.length : Int) x45_4 = some r) ∧ qq (kq ≤ k3) ∧ qq (Kd.R (Kd.int .u8) 5 w' w.heap.size (fun _ => True) v9 x9_4) ∧ qq (Kd.R (Kd.int .i64) 3 w' w.heap.size (fun _ => True) (.slice Ao23 x3_3.length co23) x3_3) ∧ qq (Below w.heap.size w w'))
          case atStart => exact ⟨(([] : List Int)),(0),(by first | rfl | (simp;done) | (simp [*];done)),H',⟨Nat.le_refl _⟩,⟨by first | exact Kd.R_nil _ _ _ _ _ | exact Kd.N_nil _ _ _ _ _ | exact Kd.V_nil _ _ _ _ _ | exact Kd.Q_nil _ _ _ _ _ | exact Kd.S_nil _ _ _ _ _⟩,⟨by (with_reducible repeat (first | apply Kd.jq | apply Kd.zx | apply Kd.jz));exact HO_3.out⟩,⟨by repeat (first | (with_reducible first | exact HB.out | apply qj | apply qz | apply qk) | exact HB.out)⟩⟩
          case round =>
           clear H'
           try clear c1
           try clear p1
           try clear q1
           try clear hx1
           try clear p2
           try clear c4
           try clear c4b0
           try clear c5
           try clear c5b0
           try clear c6
           try clear c6b0
           try clear p6
           try clear p10
           try clear q10
           try clear hx10
           try clear c11
           try clear c13
           try clear c13b0
           try clear c14
           try clear c14b0
           try clear c15
           try clear c15b0
           try clear c19
           try clear c19b0
           try clear hx104_0
           try clear hx109_0
           try clear p1
           try clear p10
           try clear p104
           try clear p109
           try clear p2
           try clear p6
           try clear q1
           try clear q10
           try clear q104
           try clear q109
           obtain ⟨x9_4,x45_4,rfl,HA,HK4,HO_9,HO_43,HB⟩ := hrel
           cases gk with
           | zero => exact absurd HA.out (by simp [qxq.l3])
           | succ k4 =>
            have H := HA.out
            clear HA
            simp only [qxq.l3] at H
            by_cases c24 : x45_4 < (x3_3.length : Int)
            ·rw [if_pos c24] at H
             have c24b0 : decide (x45_4 < (x3_3.length : Int)) = true := decide_eq_true c24
             clear c24
             by_cases c25 : 0 ≤ x45_4
             ·rw [if_pos c25] at H
              have c25b0 : decide (0 ≤ x45_4) = true := decide_eq_true c25
              clear c25
              by_cases c26 : x45_4 < (x3_3.length : Int)
              ·rw [if_pos c26] at H
               have c26b0 : decide (x45_4 < (x3_3.length : Int)) = true := decide_eq_true c26
               clear c26
               replace H := Option.bind_eq_some_iff.mp H
               obtain ⟨t113,A270,H⟩ := H
               replace H : (if x9_4.length + t113.length < 140737488355328 then (qxq.l3 k4 (x9_4 ++ t113) x3_3 (x3_3.length : Int) (wrap64 (x45_4 + 1))) else (none)) = some r := H
               have A27 := qq.mk A270
               clear A270
               by_cases c28 : x9_4.length + t113.length < 140737488355328
               ·rw [if_pos c28] at H
                have LMc28 := qq.mk c28
                clear c28
                obtain ⟨y116,hy116⟩ : ∃ y_ : List Int,y_ = (x9_4 ++ t113) := ⟨_,rfl⟩
                replace H : (qxq.l3 k4 y116 x3_3 (x3_3.length : Int) (wrap64 (x45_4 + 1))) = some r := by first | (rw [hy116];with_reducible exact H) | (have H2_ := (Option.bind_some _ _).symm.trans H;rw [hy116];with_reducible exact H2_) | (have H2_ := (Option.bind_some _ _).symm.trans H;with_reducible exact H2_) | with_reducible exact H | (rw [hy116];exact H) | exact H
                have Ny116 := qq.mk hy116
                clear hy116
                have H' := qq.mk H
                clear H
                have p112 : 0 ≤ (x45_4 : Int) := of_decide_eq_true (by assumption)
                have q112 : x45_4 < (x3_3.length : Int) := of_decide_eq_true (by assumption)
                obtain ⟨ad112,e112,hx112_0⟩ := Kd.at_int (Kd.R_reads' HO_43.out).2.2 x45_4 p112 q112
                cases e112
                replace p112 := eq_true p112
                replace q112 := eq_true q112
                go_wp2_with (first | ((with_reducible refine kj (f := 115) rfl ?_);refine goesL_ (some 51) rfl rfl Try.func115 (by kernel_rfl) rfl #[.int .i64 (rd x3_3 x45_4)] rfl (by (try simp only [List.map_toArray,List.map_cons,List.map_nil]);first | done | rfl | (simp only [List.length_drop,List.length_take];rfl)) ?_;(with_reducible refine (qwx.calls k4 (rd x3_3 x45_4) t113 _ A27.out).mono ?_);rintro e w29 ⟨v114,rfl,ho0,hb⟩;refine ⟨_,rfl,?_⟩;have n0_ := qq.mk (Kd.R_elder' (by (with_reducible repeat (first | apply Kd.jq | apply Kd.zx | apply Kd.jz));exact HO_9.out) (Kd.R_base ho0) hb);have n1_ := qq.mk (Kd.R_below (by (with_reducible repeat (first | apply Kd.jq | apply Kd.zx | apply Kd.jz));exact HO_43.out) hb);have n2_ := qq.mk (Kd.R_lower (Kd.R_new' ho0 (Kd.R_lt (by (with_reducible repeat (first | apply Kd.jq | apply Kd.zx | apply Kd.jz));exact HO_9.out))) (zw (by repeat (first | (with_reducible first | exact HB.out | apply qj | apply qz | apply qk) | exact HB.out))));have n3_ := qq.mk (zv (by repeat (first | (with_reducible first | exact HB.out | apply qj | apply qz | apply qk) | exact HB.out)) hb);clear HO_9;clear HO_43;clear HB;have HO_9 := n0_;have HO_43 := n1_;have HO115 := n2_;have HB := n3_;clear n0_ n1_ n2_ n3_;(try clear hb);(try clear hb2);(try clear hk);(try clear hi);(try clear ho0);obtain ⟨Ao31,co31,eo31⟩ := Kd.R_slice HO115.out;subst eo31) | ((with_reducible refine gate_builtin (b := .append) (xs := #[.tmp 49,.tmp 51]) rfl ?_);at_builtin;refine Kd.R_append_rows (Kd.int .u8) (w0 := w) w.heap.size rfl (.tmp 49) (.tmp 51) 22 5 (.int .u8 0) 1 rfl Try.underlying22 info5 rfl (by decide) (by omega) u9 x9_4 t113 _ _ _ (fun k_ => some k_ ≠ (.slice Ao31 t113.length co31 : Value).ownBlock) (fun _ => False) rfl rfl ?aO ?aR (fun _ _ h => h) (fun _ h => h.elim) ?aF ?aB ?aS ?aL ?_;(case aR => repeat (first | exact (Kd.R_reads' HO115.out).2.2 | (with_reducible refine Kd.C_alloc ?_ _) | (with_reducible refine Kd.C_drewN ?_ _) | (with_reducible refine Kd.C_drew ?_)));(case aB => exact (by repeat (first | (with_reducible first | exact HB.out | apply qj | apply qz | apply qk) | exact HB.out)));(case aF => exact (fun k_ hk => Kd.fresh' (Kd.R_lt (by (with_reducible repeat (first | apply Kd.jq | apply Kd.zx | apply Kd.jz));exact HO115.out)) k_ hk));(case aO => exact (by (with_reducible repeat (first | apply Kd.jq | apply Kd.zx | apply Kd.jz));exact Kd.R_mono HO_9.out (fun _ hk => hk.2)));(case aS => exact (zw (by repeat (first | (with_reducible first | exact HB.out | apply qj | apply qz | apply qk) | exact HB.out))));(case aL => have := LMc28.out;omega);intro v117 w30 ho hb hg hat;rw [← Ny116.out] at ho;have n0_ := qq.mk (Kd.R_over' (by (with_reducible repeat (first | apply Kd.jq | apply Kd.zx | apply Kd.jz));exact HO_43.out) (Kd.R_typed (by (with_reducible repeat (first | apply Kd.jq | apply Kd.zx | apply Kd.jz));exact HO_9.out)) (by decide) hg);have n1_ := qq.mk (Kd.R_after (ok := (fun _ => True)) (by (with_reducible repeat (first | apply Kd.jq | apply Kd.zx | apply Kd.jz));exact HO115.out) hg hat);have n2_ := qq.mk (hb);have n3_ := qq.mk (ho);clear HO_43;clear HO115;clear HB;clear HO_9;have HO_43 := n0_;have HO115 := n1_;have HB := n2_;have HO118 := n3_;clear n0_ n1_ n2_ n3_;clear ho hb hg hat))
                go_roundg k4
                case measure => have := HK1.out;have := HK2.out;have := HK3.out;have := HK4.out;omega
                case rel => exact ⟨(y116),(wrap64 (x45_4 + 1)),(by first | rfl | (simp;done) | (simp [*];done)),H',⟨by have := HK1.out;have := HK2.out;have := HK3.out;have := HK4.out;omega⟩,⟨by (with_reducible repeat (first | apply Kd.jq | apply Kd.zx | apply Kd.jz));exact Kd.R_mono HO118.out (fun _ hk => trivial)⟩,⟨by (with_reducible repeat (first | apply Kd.jq | apply Kd.zx | apply Kd.jz));exact HO_43.out⟩,⟨by repeat (first | (with_reducible first | exact HB.out | apply qj | apply qz | apply qk) | exact HB.out)⟩⟩
               ·rw [if_neg c28] at H
                exact absurd H (by simp)
              ·rw [if_neg c26] at H
               exact absurd H (by simp)
             ·rw [if_neg c25] at H
              exact absurd H (by simp)
            ·rw [if_neg c24] at H
             have c24b0 : decide (x45_4 < (x3_3.length : Int)) = false := decide_eq_false c24
             clear c24
             obtain rfl := Option.some.inj H
             go_wp2
             go_ret
             exact ⟨_,by first | rfl | (simp [*,kz,jx] <;> rfl),by (with_reducible repeat (first | apply Kd.jq | apply Kd.zx | apply Kd.jz));exact HO_9.out,by repeat (first | (with_reducible first | exact HB.out | apply qj | apply qz | apply qk) | exact HB.out)⟩
def qxk.f (k : Nat) (l0 : List Int) (l1 : List Int) : Option (List Int) := if ([] : List Int).length + l0.length < 140737488355328 then ((some (([] : List Int) ++ l0 : List Int)).bind fun y101 => (if y101.length + l1.length < 140737488355328 then ((qxq.f k (y101 ++ l1)).bind fun t107 => (some t107)) else (none))) else (none)
set_option maxHeartbeats 8000000 in
set_option maxRecDepth 100000 in
theorem qxk.calls (k : Nat) (A0 : Option Addr) (c0 : Nat) (l0 : List Int) (A1 : Option Addr) (c1 : Nat) (l1 : List Int) (r : List Int) (w : World) (hr0 : Kd.C (Kd.int .u8) w A0 l0.length l0) (hc0 : l0.length ≤ c0) (hr1 : Kd.C (Kd.int .u8) w A1 l1.length l1) (hc1 : l1.length ≤ c1) (h : qxk.f k l0 l1 = some r) :
  Calls Try.prog 136 #[.slice A0 l0.length c0,.slice A1 l1.length c1] w fun e w' => ∃ v0_ : Value,e = .returned (v0_) ∧ Kd.R (Kd.int .u8) 5 w' w.heap.size (fun _ => True) v0_ r ∧ Below w.heap.size w w' := by
 have HR0 := qq.mk hr0
 have HC0 := qq.mk hc0
 clear hr0 hc0
 have HR1 := qq.mk hr1
 have HC1 := qq.mk hc1
 clear hr1 hc1
 have HB := qq.mk (Below.refl w.heap.size w)
 have H : (if ([] : List Int).length + l0.length < 140737488355328 then ((some (([] : List Int) ++ l0 : List Int)).bind fun y101 => (if y101.length + l1.length < 140737488355328 then ((qxq.f k (y101 ++ l1)).bind fun t107 => (some t107)) else (none))) else (none)) = some r := h
 clear h
 by_cases c3 : ([] : List Int).length + l0.length < 140737488355328
 ·rw [if_pos c3] at H
  have LMc3 := qq.mk c3
  clear c3
  obtain ⟨y101,hy101⟩ : ∃ y_ : List Int,y_ = (([] : List Int) ++ l0) := ⟨_,rfl⟩
  replace H : (if y101.length + l1.length < 140737488355328 then ((qxq.f k (y101 ++ l1)).bind fun t107 => (some t107)) else (none)) = some r := by first | (rw [hy101];with_reducible exact H) | (have H2_ := (Option.bind_some _ _).symm.trans H;rw [hy101];with_reducible exact H2_) | (have H2_ := (Option.bind_some _ _).symm.trans H;with_reducible exact H2_) | with_reducible exact H | (rw [hy101];exact H) | exact H
  have Ny101 := qq.mk hy101
  clear hy101
  by_cases c4 : y101.length + l1.length < 140737488355328
  ·rw [if_pos c4] at H
   have LMc4 := qq.mk c4
   clear c4
   obtain ⟨y104,hy104⟩ : ∃ y_ : List Int,y_ = (y101 ++ l1) := ⟨_,rfl⟩
   replace H : ((qxq.f k y104).bind fun t107 => (some t107)) = some r := by first | (rw [hy104];with_reducible exact H) | (have H2_ := (Option.bind_some _ _).symm.trans H;rw [hy104];with_reducible exact H2_) | (have H2_ := (Option.bind_some _ _).symm.trans H;with_reducible exact H2_) | with_reducible exact H | (rw [hy104];exact H) | exact H
   have Ny104 := qq.mk hy104
   clear hy104
   replace H := Option.bind_eq_some_iff.mp H
   obtain ⟨t107,A50,H⟩ := H
   replace H : (some t107) = some r := H
   have A5 := qq.mk A50
   clear A50
   obtain rfl := Option.some.inj H
   go_enter Try.func136,Try.ntmps136
   go_wp2_with (first | ((with_reducible refine gate_builtin (b := .append) (xs := #[.tmp 6,.tmp 7]) rfl ?_);at_builtin;refine Kd.R_append_rows (Kd.int .u8) (w0 := w) w.heap.size rfl (.tmp 6) (.tmp 7) 22 5 (.int .u8 0) 1 rfl Try.underlying22 info5 rfl (by decide) (by omega) (.slice none 0 0) ([] : List Int) l0 _ _ _ (fun _ => True) (fun _ => False) rfl rfl ?aO ?aR (fun _ _ h => h) (fun _ h => h.elim) ?aF ?aB ?aS ?aL ?_;(case aR => repeat (first | exact HR0.out | (with_reducible refine Kd.C_alloc ?_ _) | (with_reducible refine Kd.C_drewN ?_ _) | (with_reducible refine Kd.C_drew ?_)));(case aB => exact (by repeat (first | (with_reducible first | exact HB.out | apply qj | apply qz | apply qk) | exact HB.out)));(case aF => exact (fun _ _ => trivial));(case aO => exact ((Kd.R_nil _ _ _ _ (fun _ => True))));(case aS => exact (zw (by repeat (first | (with_reducible first | exact HB.out | apply qj | apply qz | apply qk) | exact HB.out))));(case aL => have := LMc3.out;omega);intro v102 w6 ho hb hg hat;rw [← Ny101.out] at ho;have n0_ := qq.mk (hb);have n1_ := qq.mk (ho);clear HB;have HB := n0_;have HO103 := n1_;clear n0_ n1_;clear ho hb hg hat) | ((with_reducible refine gate_builtin (b := .append) (xs := #[.tmp 8,.tmp 9]) rfl ?_);at_builtin;refine Kd.R_append_rows (Kd.int .u8) (w0 := w) w.heap.size rfl (.tmp 8) (.tmp 9) 22 5 (.int .u8 0) 1 rfl Try.underlying22 info5 rfl (by decide) (by omega) v102 y101 l1 _ _ _ (fun _ => True) (fun _ => False) rfl rfl ?aO ?aR (fun _ _ h => h) (fun _ h => h.elim) ?aF ?aB ?aS ?aL ?_;(case aR => repeat (first | exact (Kd.C_below HR1.out HB.out) | (with_reducible refine Kd.C_alloc ?_ _) | (with_reducible refine Kd.C_drewN ?_ _) | (with_reducible refine Kd.C_drew ?_)));(case aB => exact (by repeat (first | (with_reducible first | exact HB.out | apply qj | apply qz | apply qk) | exact HB.out)));(case aF => exact (fun _ _ => trivial));(case aO => exact (by (with_reducible repeat (first | apply Kd.jq | apply Kd.zx | apply Kd.jz));exact HO103.out));(case aS => exact (zw (by repeat (first | (with_reducible first | exact HB.out | apply qj | apply qz | apply qk) | exact HB.out))));(case aL => have := LMc4.out;omega);intro v105 w7 ho hb hg hat;rw [← Ny104.out] at ho;have n0_ := qq.mk (hb);have n1_ := qq.mk (ho);clear HB;clear HO103;have HB := n0_;have HO106 := n1_;clear n0_ n1_;clear ho hb hg hat;obtain ⟨Ao8,co8,eo8⟩ := Kd.R_slice HO106.out;subst eo8) | ((with_reducible refine kj (f := 116) rfl ?_);refine goesL_ (some 11) rfl rfl Try.func116 (by kernel_rfl) rfl #[.slice Ao8 y104.length co8] rfl (by (try simp only [List.map_toArray,List.map_cons,List.map_nil]);first | done | rfl | (simp only [List.length_drop,List.length_take];rfl)) ?_;(with_reducible refine (qxq.calls k _ _ y104 t107 _ ?side1 ?side2 A5.out).mono ?_);(case side1 => repeat (first | exact (Kd.R_reads' HO106.out).2.2 | (with_reducible refine Kd.C_alloc ?_ _) | (with_reducible refine Kd.C_drewN ?_ _) | (with_reducible refine Kd.C_drew ?_)));(case side2 => exact (Kd.R_reads' HO106.out).2.1);rintro e w9 ⟨v108,rfl,ho0,hb⟩;refine ⟨_,rfl,?_⟩;have n0_ := qq.mk (Kd.R_elder' (by (with_reducible repeat (first | apply Kd.jq | apply Kd.zx | apply Kd.jz));exact HO106.out) (Kd.R_base ho0) hb);have n1_ := qq.mk (Kd.R_lower (Kd.R_new' ho0 (Kd.R_lt (by (with_reducible repeat (first | apply Kd.jq | apply Kd.zx | apply Kd.jz));exact HO106.out))) (zw (by repeat (first | (with_reducible first | exact HB.out | apply qj | apply qz | apply qk) | exact HB.out))));have n2_ := qq.mk (zv (by repeat (first | (with_reducible first | exact HB.out | apply qj | apply qz | apply qk) | exact HB.out)) hb);clear HO106;clear HB;have HO106 := n0_;have HO109 := n1_;have HB := n2_;clear n0_ n1_ n2_;(try clear hb);(try clear hb2);(try clear hk);(try clear hi);(try clear ho0)))
   go_ret
   exact ⟨_,by first | rfl | (simp [*,kz,jx] <;> rfl),by (with_reducible repeat (first | apply Kd.jq | apply Kd.zx | apply Kd.jz));exact Kd.R_mono HO109.out (fun _ hk => trivial),by repeat (first | (with_reducible first | exact HB.out | apply qj | apply qz | apply qk) | exact HB.out)⟩
  ·rw [if_neg c4] at H
   exact absurd H (by simp)
 ·rw [if_neg c3] at H
  exact absurd H (by simp)
def qxz.f (k : Nat) (l0 : List Int) (l1 : List Int) : Option (List Int) := (qxq.f k l0).bind fun t101 => ((qxq.f k l1).bind fun t104 => ((qxk.f k t101 t104).bind fun t107 => (some t107)))
set_option maxHeartbeats 8000000 in
set_option maxRecDepth 100000 in
theorem qxz.calls (k : Nat) (A0 : Option Addr) (c0 : Nat) (l0 : List Int) (A1 : Option Addr) (c1 : Nat) (l1 : List Int) (r : List Int) (w : World) (hr0 : Kd.C (Kd.int .u8) w A0 l0.length l0) (hc0 : l0.length ≤ c0) (hr1 : Kd.C (Kd.int .u8) w A1 l1.length l1) (hc1 : l1.length ≤ c1) (h : qxz.f k l0 l1 = some r) :
  Calls Try.prog 114 #[.slice A0 l0.length c0,.slice A1 l1.length c1] w fun e w' => ∃ v0_ : Value,e = .returned (v0_) ∧ Kd.R (Kd.int .u8) 5 w' w.heap.size (fun _ => True) v0_ r ∧ Below w.heap.size w w' := by
 have HR0 := qq.mk hr0
 have HC0 := qq.mk hc0
 clear hr0 hc0
 have HR1 := qq.mk hr1
 have HC1 := qq.mk hc1
 clear hr1 hc1
 have HB := qq.mk (Below.refl w.heap.size w)
 have H : ((qxq.f k l0).bind fun t101 => ((qxq.f k l1).bind fun t104 => ((qxk.f k t101 t104).bind fun t107 => (some t107)))) = some r := h
 clear h
 replace H := Option.bind_eq_some_iff.mp H
 obtain ⟨t101,A30,H⟩ := H
 replace H : ((qxq.f k l1).bind fun t104 => ((qxk.f k t101 t104).bind fun t107 => (some t107))) = some r := H
 have A3 := qq.mk A30
 clear A30
 replace H := Option.bind_eq_some_iff.mp H
 obtain ⟨t104,A40,H⟩ := H
 replace H : ((qxk.f k t101 t104).bind fun t107 => (some t107)) = some r := H
 have A4 := qq.mk A40
 clear A40
 replace H := Option.bind_eq_some_iff.mp H
 obtain ⟨t107,A50,H⟩ := H
 replace H : (some t107) = some r := H
 have A5 := qq.mk A50
 clear A50
 obtain rfl := Option.some.inj H
 go_enter Try.func114,Try.ntmps114
 go_wp2_with (first | ((with_reducible refine kj (f := 116) rfl ?_);refine goesL_ (some 6) rfl rfl Try.func116 (by kernel_rfl) rfl #[.slice A0 l0.length c0] rfl (by (try simp only [List.map_toArray,List.map_cons,List.map_nil]);first | done | rfl | (simp only [List.length_drop,List.length_take];rfl)) ?_;(with_reducible refine (qxq.calls k _ _ l0 t101 _ ?side1 ?side2 A3.out).mono ?_);(case side1 => repeat (first | exact HR0.out | (with_reducible refine Kd.C_alloc ?_ _) | (with_reducible refine Kd.C_drewN ?_ _) | (with_reducible refine Kd.C_drew ?_)));(case side2 => exact HC0.out);rintro e w6 ⟨v102,rfl,ho0,hb⟩;refine ⟨_,rfl,?_⟩;have n0_ := qq.mk (Kd.R_lower ho0 (zw (by repeat (first | (with_reducible first | exact HB.out | apply qj | apply qz | apply qk) | exact HB.out))));have n1_ := qq.mk (zv (by repeat (first | (with_reducible first | exact HB.out | apply qj | apply qz | apply qk) | exact HB.out)) hb);clear HB;have HO103 := n0_;have HB := n1_;clear n0_ n1_;(try clear hb);(try clear hb2);(try clear hk);(try clear hi);(try clear ho0)) | ((with_reducible refine kj (f := 116) rfl ?_);refine goesL_ (some 8) rfl rfl Try.func116 (by kernel_rfl) rfl #[.slice A1 l1.length c1] rfl (by (try simp only [List.map_toArray,List.map_cons,List.map_nil]);first | done | rfl | (simp only [List.length_drop,List.length_take];rfl)) ?_;(with_reducible refine (qxq.calls k _ _ l1 t104 _ ?side1 ?side2 A4.out).mono ?_);(case side1 => repeat (first | exact (Kd.C_below HR1.out HB.out) | (with_reducible refine Kd.C_alloc ?_ _) | (with_reducible refine Kd.C_drewN ?_ _) | (with_reducible refine Kd.C_drew ?_)));(case side2 => exact HC1.out);rintro e w7 ⟨v105,rfl,ho0,hb⟩;refine ⟨_,rfl,?_⟩;have n0_ := qq.mk (Kd.R_elder' (by (with_reducible repeat (first | apply Kd.jq | apply Kd.zx | apply Kd.jz));exact HO103.out) (Kd.R_base ho0) hb);have n1_ := qq.mk (Kd.R_lower (Kd.R_new' ho0 (Kd.R_lt (by (with_reducible repeat (first | apply Kd.jq | apply Kd.zx | apply Kd.jz));exact HO103.out))) (zw (by repeat (first | (with_reducible first | exact HB.out | apply qj | apply qz | apply qk) | exact HB.out))));have n2_ := qq.mk (zv (by repeat (first | (with_reducible first | exact HB.out | apply qj | apply qz | apply qk) | exact HB.out)) hb);clear HO103;clear HB;have HO103 := n0_;have HO106 := n1_;have HB := n2_;clear n0_ n1_ n2_;(try clear hb);(try clear hb2);(try clear hk);(try clear hi);(try clear ho0);obtain ⟨Ao8,co8,eo8⟩ := Kd.R_slice HO103.out;subst eo8;obtain ⟨Ao9,co9,eo9⟩ := Kd.R_slice HO106.out;subst eo9) | ((with_reducible refine kj (f := 136) rfl ?_);refine goesL_ (some 9) rfl rfl Try.func136 (by kernel_rfl) rfl #[.slice Ao8 t101.length co8,.slice Ao9 t104.length co9] rfl (by (try simp only [List.map_toArray,List.map_cons,List.map_nil]);first | done | rfl | (simp only [List.length_drop,List.length_take];rfl)) ?_;(with_reducible refine (qxk.calls k _ _ t101 _ _ t104 t107 _ ?side1 ?side2 ?side3 ?side4 A5.out).mono ?_);(case side1 => repeat (first | exact (Kd.R_reads' HO103.out).2.2 | (with_reducible refine Kd.C_alloc ?_ _) | (with_reducible refine Kd.C_drewN ?_ _) | (with_reducible refine Kd.C_drew ?_)));(case side2 => exact (Kd.R_reads' HO103.out).2.1);(case side3 => repeat (first | exact (Kd.R_reads' HO106.out).2.2 | (with_reducible refine Kd.C_alloc ?_ _) | (with_reducible refine Kd.C_drewN ?_ _) | (with_reducible refine Kd.C_drew ?_)));(case side4 => exact (Kd.R_reads' HO106.out).2.1);rintro e w10 ⟨v108,rfl,ho0,hb⟩;refine ⟨_,rfl,?_⟩;have n0_ := qq.mk (Kd.R_elder' (by (with_reducible repeat (first | apply Kd.jq | apply Kd.zx | apply Kd.jz));exact HO103.out) (Kd.R_base ho0) hb);have n1_ := qq.mk (Kd.R_elder' (by (with_reducible repeat (first | apply Kd.jq | apply Kd.zx | apply Kd.jz));exact HO106.out) (Kd.R_base ho0) hb);have n2_ := qq.mk (Kd.R_lower (Kd.R_new' (Kd.R_new' ho0 (Kd.R_lt (by (with_reducible repeat (first | apply Kd.jq | apply Kd.zx | apply Kd.jz));exact HO103.out))) (Kd.R_lt (by (with_reducible repeat (first | apply Kd.jq | apply Kd.zx | apply Kd.jz));exact HO106.out))) (zw (by repeat (first | (with_reducible first | exact HB.out | apply qj | apply qz | apply qk) | exact HB.out))));have n3_ := qq.mk (zv (by repeat (first | (with_reducible first | exact HB.out | apply qj | apply qz | apply qk) | exact HB.out)) hb);clear HO103;clear HO106;clear HB;have HO103 := n0_;have HO106 := n1_;have HO109 := n2_;have HB := n3_;clear n0_ n1_ n2_ n3_;(try clear hb);(try clear hb2);(try clear hk);(try clear hi);(try clear ho0)))
 go_ret
 exact ⟨_,by first | rfl | (simp [*,kz,jx] <;> rfl),by (with_reducible repeat (first | apply Kd.jq | apply Kd.zx | apply Kd.jz));exact Kd.R_mono HO109.out (fun _ hk => trivial),by repeat (first | (with_reducible first | exact HB.out | apply qj | apply qz | apply qk) | exact HB.out)⟩
end Go.Proofs.Ytipdkendfcopiaa.Pr
namespace Go.Proofs.Ytipdkendfcopiaa.Pr
open Go.RowKit Go.Proofs.Ytipdkendfcopiaa.Read Go.Proofs.YtipdkendfcopiaaW.PrintWords
def inP (a : List Int) : Prop := a.length = 4 ∧ ∀ j,j < 4 → 0 ≤ a.getD j 0 ∧ a.getD j 0 < 2147483579
theorem inP_start : inP [11,22,33,44] := ⟨rfl,by decide⟩
theorem inP_mix {a : List Int} (h : inP a) (x : Int) (hx : 0 ≤ x) : inP (dgMix a x) := ⟨by rw [dgMix,mix_len,h.1],mix_bd a x hx h.1 h.2 4 (by omega)⟩
theorem dgAll_cons (a : List Int) (x : Int) (l : List Int) : dgAll a (x :: l) = dgAll (dgMix a x) l := rfl
theorem mt_at (i : Nat) (h : i < 4) : rd [1103515245,69069,1664525,22695477] (i : Int) = mulT.getD i 0 := by
 match i,h with
 | 0,_ => rfl
 | 1,_ => rfl
 | 2,_ => rfl
 | 3,_ => rfl
theorem rd_getD (l : List Int) (i : Nat) : rd l (i : Int) = l.getD i 0 := by simp [rd]
theorem specMix_step (l : List Int) (h : inP l) (x : Int) (hx : 0 ≤ x ∧ x ≤ 255) (i : Nat) (hi : i < 4) (k : Nat) :
  qxj.l0 (k + 1) (mixN l x i) x [1103515245,69069,1664525,22695477] i = qxj.l0 k (mixN l x (i + 1)) x [1103515245,69069,1664525,22695477] ((i + 1 : Nat) : Int) := by
 have hlen : (mixN l x i).length = 4 := by rw [mix_len,h.1]
 have b1 := mix_bd l x hx.1 h.1 h.2 i (by omega) i hi
 have b2 := mix_bd l x hx.1 h.1 h.2 i (by omega) ((i + 1) % 4) (by omega)
 have b3 := mulOk i hi
 simp only [qxj.l0]
 rw [w64 (n := (i : Int) + 1) (by omega) (by omega)]
 have e6 : Int.tmod ((i : Int) + 1) 4 = ((i + 1) % 4 : Nat) := by rw [Int.tmod_eq_emod_of_nonneg (by omega)];omega
 rw [e6,mt_at i hi,rd_getD,rd_getD]
 obtain ⟨p1,e1⟩ : ∃ p,p = (mixN l x i).getD i 0 := ⟨_,rfl⟩
 obtain ⟨p2,e2⟩ : ∃ p,p = (mixN l x i).getD ((i + 1) % 4) 0 := ⟨_,rfl⟩
 obtain ⟨p3,e3⟩ : ∃ p,p = mulT.getD i 0 := ⟨_,rfl⟩
 have e5 : mixN l x (i + 1) = (mixN l x i).set i ((p1 * p3 + x + 1 + p2) % 2147483579) := by rw [e1,e2,e3];rfl
 rw [e5,← e1,← e2,← e3]
 rw [← e1] at b1;rw [← e2] at b2;rw [← e3] at b3
 have b4 := prod_bd b1.1 b1.2 b3.1 b3.2
 rw [if_pos (by omega),if_pos (by omega),if_pos (by omega),if_pos (by simp;omega),if_pos (by omega),if_pos (by omega),w64 (n := p1 * p3) (by omega) (by omega),w64 (n := p1 * p3 + x) (by omega) (by omega),w64 (n := p1 * p3 + x + 1) (by omega) (by omega),w64 (by omega) (by omega),Int.tmod_eq_emod_of_nonneg (by omega),Int.toNat_natCast]
 rfl
theorem specMix_eq (l : List Int) (h : inP l) (x : Int) (hx : 0 ≤ x ∧ x ≤ 255) (k : Nat) (hk : 5 ≤ k) : qxj.f k l x = some (dgMix l x) := by
 obtain ⟨k,rfl⟩ : ∃ m,k = m + 5 := ⟨k - 5,by omega⟩
 unfold qxj.f
 have e0 := specMix_step l h x hx 0 (by omega) (k + 4)
 have e1 := specMix_step l h x hx 1 (by omega) (k + 3)
 have e2 := specMix_step l h x hx 2 (by omega) (k + 2)
 have e3 := specMix_step l h x hx 3 (by omega) (k + 1)
 have e4 : qxj.l0 (k + 1) (mixN l x 4) x [1103515245,69069,1664525,22695477] ((3 + 1 : Nat) : Int) = some (mixN l x 4) := by
  simp only [qxj.l0];rw [if_neg (by omega)]
 exact e0.trans (e1.trans (e2.trans (e3.trans e4)))
theorem tm256 (n : Int) (h : 0 ≤ n) : Int.tmod n 256 % 256 = n % 256 := by rw [Int.tmod_eq_emod_of_nonneg h];omega
theorem td256 (n : Int) (h : 0 ≤ n) (h2 : n ≤ 9223372036854775807) : wrap64 (Int.tdiv n 256) = n / 256 := by
 rw [Int.tdiv_eq_ediv_of_nonneg h,w64 (by omega) (by omega)]
theorem specBytes_eq (n : Int) (h : 0 ≤ n) (h2 : n ≤ 9223372036854775807) (k : Nat) (hk : 5 ≤ k) : qwx.f k n = some (yb n) := by
 obtain ⟨k,rfl⟩ : ∃ m,k = m + 5 := ⟨k - 5,by omega⟩
 unfold qwx.f
 rw [if_pos (by omega)]
 simp only [Option.bind_some,List.length_replicate]
 simp only [qwx.l0]
 have a1 := td256 n h h2
 have a2 := td256 (n / 256) (by omega) (by omega)
 have a3 := td256 (n / 256 / 256) (by omega) (by omega)
 have w1 : wrap64 ((0 : Int) + 1) = 1 := by unfold wrap64;omega
 have w2 : wrap64 ((1 : Int) + 1) = 2 := by unfold wrap64;omega
 have w3 : wrap64 ((2 : Int) + 1) = 3 := by unfold wrap64;omega
 have w4 : wrap64 ((3 : Int) + 1) = 4 := by unfold wrap64;omega
 rw [w1,w2,w3,w4,a1,a2,a3,tm256 n h,tm256 _ (by omega),tm256 _ (by omega),tm256 _ (by omega)]
 simp [yb,List.replicate]
 omega
theorem specDig_l3 (a : List Int) (h : inP a) : ∀ (k : Nat),10 ≤ k → qxq.l3 k [] a (a.length : Int) 0 = some (a.flatMap yb) := by
 intro k hk
 obtain ⟨k,rfl⟩ : ∃ m,k = m + 10 := ⟨k - 10,by omega⟩
 obtain ⟨hl,hb⟩ := h
 match a,hl with
 | [b0,b1,b2,b3],_ =>
  have h0 := hb 0 (by omega)
  have h1 := hb 1 (by omega)
  have h2 := hb 2 (by omega)
  have h3 := hb 3 (by omega)
  simp only [List.getD_cons_zero,List.getD_cons_succ] at h0 h1 h2 h3
  have w1 : wrap64 ((0 : Int) + 1) = 1 := by unfold wrap64;omega
  have w2 : wrap64 ((1 : Int) + 1) = 2 := by unfold wrap64;omega
  have w3 : wrap64 ((2 : Int) + 1) = 3 := by unfold wrap64;omega
  have w4 : wrap64 ((3 : Int) + 1) = 4 := by unfold wrap64;omega
  have r0 : rd [b0,b1,b2,b3] 0 = b0 := rfl
  have r1 : rd [b0,b1,b2,b3] 1 = b1 := rfl
  have r2 : rd [b0,b1,b2,b3] 2 = b2 := rfl
  have r3 : rd [b0,b1,b2,b3] 3 = b3 := rfl
  simp only [qxq.l3,w1,w2,w3,w4,r0,r1,r2,r3]
  rw [specBytes_eq b0 (by omega) (by omega) _ (by omega),specBytes_eq b1 (by omega) (by omega) _ (by omega),specBytes_eq b2 (by omega) (by omega) _ (by omega),specBytes_eq b3 (by omega) (by omega) _ (by omega)]
  simp [yb]
theorem specDig_l2 (d : Nat) : ∀ (a : List Int) (k i : Nat),inP a → i + d = 8 → d + 12 ≤ k → qxq.l2 k a i = some ((dgAll a (List.replicate d 0)).flatMap yb) := by
 induction d with
 | zero =>
  intro a k i h hi hk
  obtain ⟨k,rfl⟩ : ∃ m,k = m + 1 := ⟨k - 1,by omega⟩
  simp only [qxq.l2]
  rw [if_neg (by omega),specDig_l3 a h k (by omega)];rfl
 | succ d ih =>
  intro a k i h hi hk
  obtain ⟨k,rfl⟩ : ∃ m,k = m + 1 := ⟨k - 1,by omega⟩
  simp only [qxq.l2]
  rw [if_pos (by omega),specMix_eq a h 0 (by omega) k (by omega)]
  simp only [Option.bind_some]
  rw [w64 (by omega) (by omega),show ((i : Int) + 1) = ((i + 1 : Nat) : Int) from rfl,ih (dgMix a 0) k (i + 1) (inP_mix h 0 (by omega)) (by omega) (by omega)]
  rfl
theorem wbyte {x : Int} (h : 0 ≤ x ∧ x ≤ 255) : wrap64 x = x := w64 (by omega) (by omega)
theorem drop_rd {l : List Int} {i : Nat} (h : i < l.length) : l.drop i = rd l i :: l.drop (i + 1) := by rw [List.drop_eq_getElem_cons h,rd_nat h]
theorem specDig_l1 (xs : List Int) (hx : isBytes xs) (hl : xs.length ≤ 1000000000) (d : Nat) : ∀ (a : List Int) (k i : Nat),inP a → i + d = xs.length → d + 24 ≤ k →
  qxq.l1 k a xs (xs.length : Int) i = some ((dgAll (dgAll a (xs.drop i)) (List.replicate 8 0)).flatMap yb) := by
 induction d with
 | zero =>
  intro a k i h hi hk
  obtain ⟨k,rfl⟩ : ∃ m,k = m + 1 := ⟨k - 1,by omega⟩
  simp only [qxq.l1]
  rw [if_neg (by omega),List.drop_of_length_le (by omega)]
  exact specDig_l2 8 a k 0 h (by omega) (by omega)
 | succ d ih =>
  intro a k i h hi hk
  obtain ⟨k,rfl⟩ : ∃ m,k = m + 1 := ⟨k - 1,by omega⟩
  have hlt : i < xs.length := by omega
  have hb := hx (rd xs i) (rd_mem hlt)
  simp only [qxq.l1]
  rw [if_pos (by omega),if_pos (by omega),if_pos (by omega),wbyte hb,specMix_eq a h _ hb k (by omega)]
  simp only [Option.bind_some]
  rw [w64 (by omega) (by omega),show ((i : Int) + 1) = ((i + 1 : Nat) : Int) from rfl,ih _ k (i + 1) (inP_mix h _ hb.1) (by omega) (by omega),drop_rd hlt,dgAll_cons]
theorem specDig_l0 (xs ys : List Int) (hx : isBytes xs) (hl : xs.length ≤ 1000000000) (hly : ys.length ≤ 1000000000) (d : Nat) : ∀ (a : List Int) (k i : Nat),inP a → i + d = xs.length → d + 40 ≤ k →
  qxq.l0 k ys a xs (xs.length : Int) i = some ((dgAll (dgAll (dgAll a (xs.drop i)) (yb ys.length)) (List.replicate 8 0)).flatMap yb) := by
 induction d with
 | zero =>
  intro a k i h hi hk
  obtain ⟨k,rfl⟩ : ∃ m,k = m + 1 := ⟨k - 1,by omega⟩
  simp only [qxq.l0]
  rw [if_neg (by omega),List.drop_of_length_le (by omega),specBytes_eq _ (by omega) (by omega) k (by omega)]
  exact specDig_l1 (yb ys.length) (yb_bytes _) (by rw [yb_len];omega) 4 a k 0 h (by rw [yb_len]) (by omega)
 | succ d ih =>
  intro a k i h hi hk
  obtain ⟨k,rfl⟩ : ∃ m,k = m + 1 := ⟨k - 1,by omega⟩
  have hlt : i < xs.length := by omega
  have hb := hx (rd xs i) (rd_mem hlt)
  simp only [qxq.l0]
  rw [if_pos (by omega),if_pos (by omega),if_pos (by omega),wbyte hb,specMix_eq a h _ hb k (by omega)]
  simp only [Option.bind_some]
  rw [w64 (by omega) (by omega),show ((i : Int) + 1) = ((i + 1 : Nat) : Int) from rfl,ih _ k (i + 1) (inP_mix h _ hb.1) (by omega) (by omega),drop_rd hlt,dgAll_cons]
theorem specDigest_eq (l : List Int) (h : isBytes l) (hl : l.length ≤ 1000000000) (k : Nat) (hk : l.length + 40 ≤ k) : qxq.f k l = some (dg l) := by
 have := specDig_l0 l l h hl hl l.length [11,22,33,44] k 0 inP_start (by omega) hk
 simpa [qxq.f,dg,dgS] using this
theorem specDigest_ev (l : List Int) (h : isBytes l) (hl : l.length ≤ 1000000000) : Ev (fun k => qxq.f k l) (dg l) := ⟨_,fun k hk => specDigest_eq l h hl k hk⟩
theorem isBytes_flatMap_yb (a : List Int) : isBytes (a.flatMap yb) := by
 intro x hx
 obtain ⟨n,_,hn⟩ := List.mem_flatMap.1 hx
 exact yb_bytes n x hn
theorem dg_bytes (l : List Int) : isBytes (dg l) := isBytes_flatMap_yb _
theorem dgAll_len : ∀ (l a : List Int),(dgAll a l).length = a.length
 | [],_ => rfl
 | x :: l,a => by rw [dgAll_cons,dgAll_len l,dgMix,mix_len]
theorem dg_len (l : List Int) : (dg l).length = 16 := by
 have h : (dgS l).length = 4 := by simp [dgS,dgAll_len]
 unfold dg
 match dgS l,h with
 | [b0,b1,b2,b3],_ => rfl
theorem isBytes_append {a b : List Int} (h : isBytes a) (h2 : isBytes b) : isBytes (a ++ b) := fun x hx => (List.mem_append.1 hx).elim (h x) (h2 x)
theorem implDigest_eq (l : List Int) (h : isBytes l) (hl : l.length ≤ 20000) : qqq.f l = some (dg l) := by
 unfold qqq.f;rw [if_pos h,if_neg (by omega)]
theorem bytesOf_isBytes (s : ByteArray) : isBytes (bytesOf s) := by
 intro x hx
 simp only [bytesOf,List.mem_map] at hx
 obtain ⟨b,_,rfl⟩ := hx
 have := b.toNat_lt
 omega
def macL (key data : List Int) : List Int := dg (dg key ++ dg data)
end Go.Proofs.Ytipdkendfcopiaa.Pr
namespace Go.Proofs.Ytipdkendfcopiaa.Pr
open Go.RowKit Go.Proofs.YtipdkendfcopiaaW.PrintWords Go.Proofs.YtipdkendfcopiaaW.PrintLast Go.Proofs.YtipdkendfcopiaaW.PrintMore
attribute [local go_sem] max2_int min2_int max_two min_two max_three min_three max_four min_four
set_option linter.unusedVariables false
set_option linter.unusedSimpArgs false
def qvx.l0 : Nat → Int → Int → Option (Int)
 | 0,_,_ => none
 | k + 1,x0,x3 => if (wrap64 (x3 * 2)) < x0 then (qvx.l0 k x0 (wrap64 (x3 * 2))) else (some x3)
def qvx.f (k : Nat) (a0 : Int) : Option (Int) := qvx.l0 k a0 1
theorem qvx.mono_l : ∀ k,(∀ y0 y1,LeO (qvx.l0 k y0 y1) (qvx.l0 (k + 1) y0 y1))
 | 0 => fun _ _ r h => by simp [qvx.l0] at h
 | k + 1 => by
  have ih0 := qvx.mono_l k
  ·intro y0 y1
   unfold qvx.l0
   repeat' first
   | (with_reducible exact ih0 _ _)
   | (with_reducible exact LeO.refl _)
   | (with_reducible exact LeO.none _)
   | (with_reducible refine LeO.ite ?_ ?_)
   | (with_reducible refine LeO.bind ?_ (fun _ => ?_))
   | exact ih0 _ _
   | exact LeO.none _
   | refine LeO.ite ?_ ?_
   | refine LeO.bind ?_ (fun _ => ?_)
theorem qvx.mono : ∀ a0 k,LeO (qvx.f k a0) (qvx.f (k + 1) a0) := by
 intro a0 k
 have ih0 := qvx.mono_l k
 unfold qvx.f
 repeat' first
   | (with_reducible exact ih0 _ _)
   | (with_reducible exact LeO.refl _)
   | (with_reducible exact LeO.none _)
   | (with_reducible refine LeO.ite ?_ ?_)
   | (with_reducible refine LeO.bind ?_ (fun _ => ?_))
   | exact ih0 _ _
   | exact LeO.none _
   | refine LeO.ite ?_ ?_
   | refine LeO.bind ?_ (fun _ => ?_)
set_option maxHeartbeats 8000000 in
set_option maxRecDepth 100000 in
theorem qvx.calls (k : Nat) (a0 : Int) (r : Int) (w : World) (h : qvx.f k a0 = some r) :
  Calls Try.prog 119 #[.int .i64 a0] w fun e w' => e = .returned (.int .i64 r) ∧ Drawn0 w w' := by
 have H : (qvx.l0 k a0 1) = some r := h
 clear h
 have H' := qq.mk H
 clear H
 go_enter Try.func119,Try.ntmps119
 go_wp2
 go_loopg [3] k (fun kq v3 w' => ∃ (x3_1 : Int),v3 = .int .i64 x3_1 ∧ qq (qvx.l0 kq a0 x3_1 = some r) ∧ qq (kq ≤ k) ∧ Drawn0 w w')
 case atStart => exact ⟨(1),(by first | rfl | (simp;done) | (simp [*];done)),H',⟨Nat.le_refl _⟩,by repeat (first | exact Drawn0.refl _ | apply Drawn0.step)⟩
 case round =>
  clear H'
  try clear c1
  obtain ⟨x3_1,rfl,HA,HK1,⟨m1,rfl⟩⟩ := hrel
  cases gk with
  | zero => exact absurd HA.out (by simp [qvx.l0])
  | succ k1 =>
   have H := HA.out
   clear HA
   simp only [qvx.l0] at H
   by_cases c2 : (wrap64 (x3_1 * 2)) < a0
   ·rw [if_pos c2] at H
    have c2b0 : decide ((wrap64 (x3_1 * 2)) < a0) = true := decide_eq_true c2
    clear c2
    have H' := qq.mk H
    clear H
    go_wp2
    go_roundg k1
    case measure => have := HK1.out;omega
    case rel => exact ⟨(wrap64 (x3_1 * 2)),(by first | rfl | (simp;done) | (simp [*];done)),H',⟨by have := HK1.out;omega⟩,by repeat (first | exact Drawn0.refl _ | apply Drawn0.step)⟩
   ·rw [if_neg c2] at H
    have c2b0 : decide ((wrap64 (x3_1 * 2)) < a0) = false := decide_eq_false c2
    clear c2
    obtain rfl := Option.some.inj H
    go_wp2
    go_ret
    exact ⟨by first | rfl | (simp;done) | (simp [*];done),by repeat (first | exact Drawn0.refl _ | apply Drawn0.step)⟩
end Go.Proofs.Ytipdkendfcopiaa.Pr
namespace Go.Proofs.Ytipdkendfcopiaa.Pr
open Go.RowKit Go.Proofs.YtipdkendfcopiaaW.PrintWords Go.Proofs.YtipdkendfcopiaaW.PrintLast Go.Proofs.YtipdkendfcopiaaW.PrintMore
attribute [local go_sem] max2_int min2_int max_two min_two max_three min_three max_four min_four
set_option linter.unusedVariables false
set_option linter.unusedSimpArgs false
def qwj.f (k : Nat) (l0 : List Int) (l1 : List Int) : Option (List Int) := (some (([1] : List Int) : List Int)).bind fun y101 => (if y101.length + l0.length < 140737488355328 then ((some (y101 ++ l0 : List Int)).bind fun y104 => (if y104.length + l1.length < 140737488355328 then ((qxq.f k (y104 ++ l1)).bind fun t110 => (some t110)) else (none))) else (none))
theorem qwj.mono : ∀ a0 a1 k,LeO (qwj.f k a0 a1) (qwj.f (k + 1) a0 a1) := by
 intro a0 a1 k
 unfold qwj.f
 repeat' first
   | (with_reducible exact qxq.mono _ _)
   | (with_reducible exact LeO.refl _)
   | (with_reducible exact LeO.none _)
   | (with_reducible refine LeO.ite ?_ ?_)
   | (with_reducible refine LeO.bind ?_ (fun _ => ?_))
   | exact qxq.mono _ _
   | exact LeO.none _
   | refine LeO.ite ?_ ?_
   | refine LeO.bind ?_ (fun _ => ?_)
set_option maxHeartbeats 8000000 in
set_option maxRecDepth 100000 in
theorem qwj.calls (k : Nat) (A0 : Option Addr) (c0 : Nat) (l0 : List Int) (A1 : Option Addr) (c1 : Nat) (l1 : List Int) (r : List Int) (w : World) (hr0 : Kd.C (Kd.int .u8) w A0 l0.length l0) (hc0 : l0.length ≤ c0) (hr1 : Kd.C (Kd.int .u8) w A1 l1.length l1) (hc1 : l1.length ≤ c1) (h : qwj.f k l0 l1 = some r) :
  Calls Try.prog 120 #[.slice A0 l0.length c0,.slice A1 l1.length c1] w fun e w' => ∃ v0_ : Value,e = .returned (v0_) ∧ Kd.R (Kd.int .u8) 5 w' w.heap.size (fun _ => True) v0_ r ∧ Below w.heap.size w w' := by
 have HR0 := qq.mk hr0
 have HC0 := qq.mk hc0
 clear hr0 hc0
 have HR1 := qq.mk hr1
 have HC1 := qq.mk hc1
 clear hr1 hc1
 have HB := qq.mk (Below.refl w.heap.size w)
 have H : ((some (([1] : List Int) : List Int)).bind fun y101 => (if y101.length + l0.length < 140737488355328 then ((some (y101 ++ l0 : List Int)).bind fun y104 => (if y104.length + l1.length < 140737488355328 then ((qxq.f k (y104 ++ l1)).bind fun t110 => (some t110)) else (none))) else (none))) = some r := h
 clear h
 obtain ⟨y101,hy101⟩ : ∃ y_ : List Int,y_ = (([1] : List Int)) := ⟨_,rfl⟩
 replace H : (if y101.length + l0.length < 140737488355328 then ((some (y101 ++ l0 : List Int)).bind fun y104 => (if y104.length + l1.length < 140737488355328 then ((qxq.f k (y104 ++ l1)).bind fun t110 => (some t110)) else (none))) else (none)) = some r := by first | (rw [hy101];with_reducible exact H) | (have H2_ := (Option.bind_some _ _).symm.trans H;rw [hy101];with_reducible exact H2_) | (have H2_ := (Option.bind_some _ _).symm.trans H;with_reducible exact H2_) | with_reducible exact H | (rw [hy101];exact H) | exact H
 have Ny101 := qq.mk hy101
 clear hy101
 by_cases c3 : y101.length + l0.length < 140737488355328
 ·rw [if_pos c3] at H
  have LMc3 := qq.mk c3
  clear c3
  obtain ⟨y104,hy104⟩ : ∃ y_ : List Int,y_ = (y101 ++ l0) := ⟨_,rfl⟩
  replace H : (if y104.length + l1.length < 140737488355328 then ((qxq.f k (y104 ++ l1)).bind fun t110 => (some t110)) else (none)) = some r := by first | (rw [hy104];with_reducible exact H) | (have H2_ := (Option.bind_some _ _).symm.trans H;rw [hy104];with_reducible exact H2_) | (have H2_ := (Option.bind_some _ _).symm.trans H;with_reducible exact H2_) | with_reducible exact H | (rw [hy104];exact H) | exact H
  have Ny104 := qq.mk hy104
  clear hy104
  by_cases c4 : y104.length + l1.length < 140737488355328
  ·rw [if_pos c4] at H
   have LMc4 := qq.mk c4
   clear c4
   obtain ⟨y107,hy107⟩ : ∃ y_ : List Int,y_ = (y104 ++ l1) := ⟨_,rfl⟩
   replace H : ((qxq.f k y107).bind fun t110 => (some t110)) = some r := by first | (rw [hy107];with_reducible exact H) | (have H2_ := (Option.bind_some _ _).symm.trans H;rw [hy107];with_reducible exact H2_) | (have H2_ := (Option.bind_some _ _).symm.trans H;with_reducible exact H2_) | with_reducible exact H | (rw [hy107];exact H) | exact H
   have Ny107 := qq.mk hy107
   clear hy107
   replace H := Option.bind_eq_some_iff.mp H
   obtain ⟨t110,A50,H⟩ := H
   replace H : (some t110) = some r := H
   have A5 := qq.mk A50
   clear A50
   obtain rfl := Option.some.inj H
   go_enter Try.func120,Try.ntmps120
   go_wp2_with (first | ((with_reducible refine gate_dst (N := 6) rfl ?_);refine Kd.R_lit (Kd.int .u8) _ 5 ?hg (N := 6) ?hd (xs := ([1] : List Int)) (inner := [.int .u8 1]) (ok := fun _ => True) (okp := fun _ => True) ?hr ?hp (fun _ hk => hk) trivial (Below.refl _ _) (Nat.le_refl _) (by simp) ?_;(case hd => rfl);(case hg => rfl);(case hr => first | (go_simp;done) | (go_simp;rfl));(case hp => exact (Reps.one (show Kd.M (Kd.int .u8) _ _ _ 1 [.int .u8 1] from rfl) (Reps.none _ _)));intro v102 w6 ho7 hb hg_ hnew_;clear hg_ hnew_;(first | rw [← Ny101.out] at ho7 | (simp only [Int.reduceToNat] at ho7;rw [← Ny101.out] at ho7));have n0_ := qq.mk (Kd.R_lower ho7 (zw (by repeat (first | (with_reducible first | exact HB.out | apply qj | apply qz | apply qk) | exact HB.out))));have n1_ := qq.mk (zv (by repeat (first | (with_reducible first | exact HB.out | apply qj | apply qz | apply qk) | exact HB.out)) hb);clear HB;have HO103 := n0_;have HB := n1_;clear n0_ n1_;clear hb ho7) | ((with_reducible refine gate_builtin (b := .append) (xs := #[.tmp 7,.tmp 8]) rfl ?_);at_builtin;refine Kd.R_append_rows (Kd.int .u8) (w0 := w) w.heap.size rfl (.tmp 7) (.tmp 8) 22 5 (.int .u8 0) 1 rfl Try.underlying22 info5 rfl (by decide) (by omega) v102 y101 l0 _ _ _ (fun _ => True) (fun _ => False) rfl rfl ?aO ?aR (fun _ _ h => h) (fun _ h => h.elim) ?aF ?aB ?aS ?aL ?_;(case aR => repeat (first | exact (Kd.C_below HR0.out HB.out) | (with_reducible refine Kd.C_alloc ?_ _) | (with_reducible refine Kd.C_drewN ?_ _) | (with_reducible refine Kd.C_drew ?_)));(case aB => exact (by repeat (first | (with_reducible first | exact HB.out | apply qj | apply qz | apply qk) | exact HB.out)));(case aF => exact (fun _ _ => trivial));(case aO => exact (by (with_reducible repeat (first | apply Kd.jq | apply Kd.zx | apply Kd.jz));exact HO103.out));(case aS => exact (zw (by repeat (first | (with_reducible first | exact HB.out | apply qj | apply qz | apply qk) | exact HB.out))));(case aL => have := LMc3.out;omega);intro v105 w8 ho hb hg hat;rw [← Ny104.out] at ho;have n0_ := qq.mk (hb);have n1_ := qq.mk (ho);clear HB;clear HO103;have HB := n0_;have HO106 := n1_;clear n0_ n1_;clear ho hb hg hat) | ((with_reducible refine gate_builtin (b := .append) (xs := #[.tmp 9,.tmp 10]) rfl ?_);at_builtin;refine Kd.R_append_rows (Kd.int .u8) (w0 := w) w.heap.size rfl (.tmp 9) (.tmp 10) 22 5 (.int .u8 0) 1 rfl Try.underlying22 info5 rfl (by decide) (by omega) v105 y104 l1 _ _ _ (fun _ => True) (fun _ => False) rfl rfl ?aO ?aR (fun _ _ h => h) (fun _ h => h.elim) ?aF ?aB ?aS ?aL ?_;(case aR => repeat (first | exact (Kd.C_below HR1.out HB.out) | (with_reducible refine Kd.C_alloc ?_ _) | (with_reducible refine Kd.C_drewN ?_ _) | (with_reducible refine Kd.C_drew ?_)));(case aB => exact (by repeat (first | (with_reducible first | exact HB.out | apply qj | apply qz | apply qk) | exact HB.out)));(case aF => exact (fun _ _ => trivial));(case aO => exact (by (with_reducible repeat (first | apply Kd.jq | apply Kd.zx | apply Kd.jz));exact HO106.out));(case aS => exact (zw (by repeat (first | (with_reducible first | exact HB.out | apply qj | apply qz | apply qk) | exact HB.out))));(case aL => have := LMc4.out;omega);intro v108 w9 ho hb hg hat;rw [← Ny107.out] at ho;have n0_ := qq.mk (hb);have n1_ := qq.mk (ho);clear HB;clear HO106;have HB := n0_;have HO109 := n1_;clear n0_ n1_;clear ho hb hg hat;obtain ⟨Ao10,co10,eo10⟩ := Kd.R_slice HO109.out;subst eo10) | ((with_reducible refine kj (f := 116) rfl ?_);refine goesL_ (some 12) rfl rfl Try.func116 (by kernel_rfl) rfl #[.slice Ao10 y107.length co10] rfl (by (try simp only [List.map_toArray,List.map_cons,List.map_nil]);first | done | rfl | (simp only [List.length_drop,List.length_take];rfl)) ?_;(with_reducible refine (qxq.calls k _ _ y107 t110 _ ?side1 ?side2 A5.out).mono ?_);(case side1 => repeat (first | exact (Kd.R_reads' HO109.out).2.2 | (with_reducible refine Kd.C_alloc ?_ _) | (with_reducible refine Kd.C_drewN ?_ _) | (with_reducible refine Kd.C_drew ?_)));(case side2 => exact (Kd.R_reads' HO109.out).2.1);rintro e w11 ⟨v111,rfl,ho0,hb⟩;refine ⟨_,rfl,?_⟩;have n0_ := qq.mk (Kd.R_elder' (by (with_reducible repeat (first | apply Kd.jq | apply Kd.zx | apply Kd.jz));exact HO109.out) (Kd.R_base ho0) hb);have n1_ := qq.mk (Kd.R_lower (Kd.R_new' ho0 (Kd.R_lt (by (with_reducible repeat (first | apply Kd.jq | apply Kd.zx | apply Kd.jz));exact HO109.out))) (zw (by repeat (first | (with_reducible first | exact HB.out | apply qj | apply qz | apply qk) | exact HB.out))));have n2_ := qq.mk (zv (by repeat (first | (with_reducible first | exact HB.out | apply qj | apply qz | apply qk) | exact HB.out)) hb);clear HO109;clear HB;have HO109 := n0_;have HO112 := n1_;have HB := n2_;clear n0_ n1_ n2_;(try clear hb);(try clear hb2);(try clear hk);(try clear hi);(try clear ho0)))
   go_ret
   exact ⟨_,by first | rfl | (simp [*,kz,jx] <;> rfl),by (with_reducible repeat (first | apply Kd.jq | apply Kd.zx | apply Kd.jz));exact Kd.R_mono HO112.out (fun _ hk => trivial),by repeat (first | (with_reducible first | exact HB.out | apply qj | apply qz | apply qk) | exact HB.out)⟩
  ·rw [if_neg c4] at H
   exact absurd H (by simp)
 ·rw [if_neg c3] at H
  exact absurd H (by simp)
end Go.Proofs.Ytipdkendfcopiaa.Pr
namespace Go.Proofs.Ytipdkendfcopiaa.Pr
open Go.RowKit Go.Proofs.YtipdkendfcopiaaW.PrintWords Go.Proofs.YtipdkendfcopiaaW.PrintLast Go.Proofs.YtipdkendfcopiaaW.PrintMore
attribute [local go_sem] max2_int min2_int max_two min_two max_three min_three max_four min_four
set_option linter.unusedVariables false
set_option linter.unusedSimpArgs false
def qzj.l0 : Nat → Int → Int → Option (Int)
 | 0,_,_ => none
 | k + 1,x0,x3 => if (wrap64 (x3 * 2)) < x0 then (qzj.l0 k x0 (wrap64 (x3 * 2))) else (some x3)
def qzj.f (k : Nat) (a0 : Int) : Option (Int) := qzj.l0 k a0 1
theorem qzj.mono_l : ∀ k,(∀ y0 y1,LeO (qzj.l0 k y0 y1) (qzj.l0 (k + 1) y0 y1))
 | 0 => fun _ _ r h => by simp [qzj.l0] at h
 | k + 1 => by
  have ih0 := qzj.mono_l k
  ·intro y0 y1
   unfold qzj.l0
   repeat' first
   | (with_reducible exact ih0 _ _)
   | (with_reducible exact LeO.refl _)
   | (with_reducible exact LeO.none _)
   | (with_reducible refine LeO.ite ?_ ?_)
   | (with_reducible refine LeO.bind ?_ (fun _ => ?_))
   | exact ih0 _ _
   | exact LeO.none _
   | refine LeO.ite ?_ ?_
   | refine LeO.bind ?_ (fun _ => ?_)
theorem qzj.mono : ∀ a0 k,LeO (qzj.f k a0) (qzj.f (k + 1) a0) := by
 intro a0 k
 have ih0 := qzj.mono_l k
 unfold qzj.f
 repeat' first
   | (with_reducible exact ih0 _ _)
   | (with_reducible exact LeO.refl _)
   | (with_reducible exact LeO.none _)
   | (with_reducible refine LeO.ite ?_ ?_)
   | (with_reducible refine LeO.bind ?_ (fun _ => ?_))
   | exact ih0 _ _
   | exact LeO.none _
   | refine LeO.ite ?_ ?_
   | refine LeO.bind ?_ (fun _ => ?_)
set_option maxHeartbeats 8000000 in
set_option maxRecDepth 100000 in
theorem qzj.calls (k : Nat) (a0 : Int) (r : Int) (w : World) (h : qzj.f k a0 = some r) :
  Calls Try.prog 121 #[.int .i64 a0] w fun e w' => e = .returned (.int .i64 r) ∧ Drawn0 w w' := by
 have H : (qzj.l0 k a0 1) = some r := h
 clear h
 have H' := qq.mk H
 clear H
 go_enter Try.func121,Try.ntmps121
 go_wp2
 go_loopg [3] k (fun kq v3 w' => ∃ (x3_1 : Int),v3 = .int .i64 x3_1 ∧ qq (qzj.l0 kq a0 x3_1 = some r) ∧ qq (kq ≤ k) ∧ Drawn0 w w')
 case atStart => exact ⟨(1),(by first | rfl | (simp;done) | (simp [*];done)),H',⟨Nat.le_refl _⟩,by repeat (first | exact Drawn0.refl _ | apply Drawn0.step)⟩
 case round =>
  clear H'
  try clear c1
  obtain ⟨x3_1,rfl,HA,HK1,⟨m1,rfl⟩⟩ := hrel
  cases gk with
  | zero => exact absurd HA.out (by simp [qzj.l0])
  | succ k1 =>
   have H := HA.out
   clear HA
   simp only [qzj.l0] at H
   by_cases c2 : (wrap64 (x3_1 * 2)) < a0
   ·rw [if_pos c2] at H
    have c2b0 : decide ((wrap64 (x3_1 * 2)) < a0) = true := decide_eq_true c2
    clear c2
    have H' := qq.mk H
    clear H
    go_wp2
    go_roundg k1
    case measure => have := HK1.out;omega
    case rel => exact ⟨(wrap64 (x3_1 * 2)),(by first | rfl | (simp;done) | (simp [*];done)),H',⟨by have := HK1.out;omega⟩,by repeat (first | exact Drawn0.refl _ | apply Drawn0.step)⟩
   ·rw [if_neg c2] at H
    have c2b0 : decide ((wrap64 (x3_1 * 2)) < a0) = false := decide_eq_false c2
    clear c2
    obtain rfl := Option.some.inj H
    go_wp2
    go_ret
    exact ⟨by first | rfl | (simp;done) | (simp [*];done),by repeat (first | exact Drawn0.refl _ | apply Drawn0.step)⟩
end Go.Proofs.Ytipdkendfcopiaa.Pr
namespace Go.Proofs.Ytipdkendfcopiaa.Pr
open Go.RowKit Go.Proofs.YtipdkendfcopiaaW.PrintWords Go.Proofs.YtipdkendfcopiaaW.PrintLast Go.Proofs.YtipdkendfcopiaaW.PrintMore
set_option linter.unusedVariables false
theorem grown_R (w : World) (n : Nat) (hn : n ≤ 140737488355328) (e : TypeId) :
  (Kd.int .u8).R e (w.drew.alloc (.cells (Builtin.zeroCells (Value.int .u8 0).cells n ++ Builtin.zeroCells (Value.int .u8 0).cells (grownCap w n 0 e - n)) e)) w.heap.size (fun _ => True) (.slice (some ⟨w.heap.size,0,none⟩) 0 (grownCap w n 0 e)) [] := by
 refine Kd.R_of_own (h1 := fun _ => rfl) (World.ownsRow_made w.drew _ _ (Nat.le_refl _) (grownCap_le_maxLen w n 0 e (by unfold maxLen;omega)) ?_) (fun _ _ => trivial)
 have := grownCap_ge w n 0 e
 simp [Builtin.zeroCells,Value.cells]
 omega
set_option maxHeartbeats 1000000 in
set_option maxRecDepth 100000 in
theorem grow_calls (n : Nat) (hn : n ≤ 140737488355328) (w : World) :
  Calls Try.prog 118 #[.slice none 0 0,.int .i64 (n : Int)] w fun e w' => ∃ (A : Option Addr) (c : Nat),e = .returned (.slice A 0 c) ∧ Kd.R (Kd.int .u8) 5 w' w.heap.size (fun _ => True) (.slice A 0 c) [] ∧ Below w.heap.size w w' := by
 by_cases hz : n = 0
 ·subst hz
  go_enter Try.func118,Try.ntmps118
  go_wp2
  go_ret
  exact ⟨none,0,rfl,Kd.R_nil _ _ _ _ _,Below.refl _ _⟩
 ·have e1 : IntKind.i64.wrap (n : Int) = n := IntWalk.i64_in _ (by omega)
  have h0 : 0 < n := by omega
  have hr := Lib.run_append_nil_zeros (P := Try.prog) w 22 3 22 5 _ (.int .u8 0) .i64 .i64 Try.underlying22 Try.underlying3 (show Try.prog.info? 5 = some Try.t5 by kernel_rfl) rfl n h0 (by decide) (by omega) (by rw [show Try.t5.bytes = 1 from rfl];omega)
  have HR := qq.mk hr
  clear hr
  have hc : grownCap w n 0 5 ≤ maxLen := grownCap_le_maxLen w n 0 5 (by unfold maxLen;omega)
  have hl : n ≤ grownCap w n 0 5 := grownCap_ge w n 0 5
  have HQ := qq.mk (grown_R w n hn 5)
  generalize grownCap w n 0 5 = c at HR HQ hc hl
  have HB : qq (Below w.heap.size w (w.drew.alloc (.cells (Builtin.zeroCells (Value.int .u8 0).cells n ++ Builtin.zeroCells (Value.int .u8 0).cells (c - n)) 5))) := ⟨qj (below_drew (Below.refl _ _)) _⟩
  generalize (w.drew.alloc (.cells (Builtin.zeroCells (Value.int .u8 0).cells n ++ Builtin.zeroCells (Value.int .u8 0).cells (c - n)) 5)) = w2 at HR HQ HB
  go_enter Try.func118,Try.ntmps118
  go_wp2_with ((with_reducible refine gate_builtin (b := .append) (xs := #[.tmp 20,.tmp 21]) rfl ?_);at_builtin;refine Lib.wpList_append_run _ rfl (.tmp 20) (.tmp 21) 22 3 rfl _ _ rfl rfl _ _ HR.out ?_)
  go_ret
  exact ⟨_,_,rfl,HQ.out,HB.out⟩
def qjk.f (l0 : List (List Int)) : Option (List Int) := if l0.flatten.length ≤ 140737488355328 then some l0.flatten else none
theorem take_rd_L2 {l : List (List Int)} {k : Nat} (h : k < l.length) : (l.take (k + 1)).flatten = (l.take k).flatten ++ rd_L2 l k := by
 rw [List.take_succ_eq_append_getElem h,List.flatten_append];simp [rd_L2,List.getD_eq_getElem?_getD,List.getElem?_eq_getElem h]
theorem take_flat_le (l : List (List Int)) (k : Nat) : (l.take k).flatten.length ≤ l.flatten.length := by
 conv => rhs;rw [← List.take_append_drop k l]
 rw [List.flatten_append,List.length_append]
 omega
set_option maxHeartbeats 1000000 in
set_option maxRecDepth 100000 in
theorem qjk.calls (A0 : Option Addr) (c0 : Nat) (l0 : List (List Int)) (r : List Int) (w : World) (hr0 : Kd.C (Kd.slice 5 (Kd.int .u8)) w A0 l0.length l0) (hc0 : l0.length ≤ c0) (h : qjk.f l0 = some r) :
  Calls Try.prog 78 #[.slice A0 l0.length c0] w fun e w' => ∃ v0_ : Value,e = .returned (v0_) ∧ Kd.R (Kd.int .u8) 5 w' w.heap.size (fun _ => True) v0_ r ∧ Below w.heap.size w w' := by
 unfold qjk.f at h
 by_cases hs : l0.flatten.length ≤ 140737488355328
 case neg => rw [if_neg hs] at h;cases h
 rw [if_pos hs] at h
 obtain rfl := Option.some.inj h
 clear h
 have hmax := Kd.C_max hr0
 have HR0 := qq.mk hr0
 have HC0 := qq.mk hc0
 have HS := qq.mk hs
 have HM := qq.mk hmax
 clear hr0 hc0 hs hmax
 go_enter Try.func78,Try.ntmps78
 go_wp2
 go_loopw [3,11] (fun v3 i W => ∃ k s : Nat,k ≤ l0.length ∧ i = .int .i64 k ∧ v3 = .int .i64 s ∧ qq (s = (l0.take k).flatten.length ∧ Below w.heap.size w W)) (fun _ i _ => l0.length - (intOf i).toNat)
 case atStart => exact ⟨0,0,by omega,rfl,rfl,⟨rfl,Below.refl _ _⟩⟩
 case round =>
  obtain ⟨k,s,hk,rfl,rfl,HW⟩ := hrel
  have hmax := HM.out
  have hsb : s ≤ 140737488355328 := by have h1 := HW.out.1;have h2 := take_flat_le l0 k;have h3 := HS.out;omega
  by_cases hlt : k < l0.length
  ·obtain ⟨ad,A1,c1,rfl,hcell,hl1,hC1⟩ := at_L2 HR0.out k (by omega) (by omega)
   replace hcell := (HW.out.2.cell (World.block_lt_of_cell? w _ hcell)).trans hcell
   rw [Int.toNat_natCast] at hcell
   obtain ⟨ys,ey⟩ : ∃ ys,ys = rd_L2 l0 k := ⟨_,rfl⟩
   rw [← ey] at hcell
   obtain ⟨n,en⟩ : ∃ n,n = ys.length := ⟨_,rfl⟩
   rw [← en] at hcell
   have hsn : s + n ≤ 140737488355328 := by
    have h1 := HW.out.1;have h2 := take_flat_le l0 (k + 1);have h3 := HS.out
    rw [take_rd_L2 hlt,List.length_append,← ey,← h1,← en] at h2
    omega
   have EY : qq (ys = rd_L2 l0 k ∧ n = ys.length) := ⟨ey,en⟩
   clear ey en
   go_wp2
   go_roundw
   case rel => exact ⟨k + 1,s + n,by omega,by go_num,by go_num,⟨by rw [take_rd_L2 hlt,List.length_append,← HW.out.1,← EY.out.1,← EY.out.2],by repeat (first | exact HW.out.2 | apply below_drew)⟩⟩
   case measure => simp [intOf];omega
  ·obtain rfl : k = l0.length := by omega
   rw [List.take_length] at HW
   clear hlt hk
   go_wp2_with (go_at_call 118;refine (grow_calls s hsb _).mono ?_;rintro e w1 ⟨A1,c1,rfl,HV,HB1⟩;replace HV := qq.mk (Kd.R_lower HV (base' := w.heap.size) HW.out.2.size);replace HB1 := qq.mk (zv HW.out.2 HB1))
   clear HW
   go_loopw [6,27] (fun v i W => ∃ (k : Nat) (ys : List Int),k ≤ l0.length ∧ i = .int .i64 k ∧ qq (ys = (l0.take k).flatten ∧ Kd.R (Kd.int .u8) 5 W w.heap.size (fun _ => True) v ys ∧ Below w.heap.size w W)) (fun _ i _ => l0.length - (intOf i).toNat)
   case atStart => exact ⟨0,[],by omega,rfl,⟨rfl,HV.out,HB1.out⟩⟩
   case round =>
    clear HV HB1
    obtain ⟨k,ys,hk,rfl,HW⟩ := hrel
    obtain ⟨A2,c2,rfl⟩ := Kd.R_slice HW.out.2.1
    have hmax := HM.out
    by_cases hlt : k < l0.length
    ·obtain ⟨ad,A3,c3,rfl,hcell,hl3,hC3⟩ := at_L2 HR0.out k (by omega) (by omega)
     replace hcell := (HW.out.2.2.cell (World.block_lt_of_cell? w _ hcell)).trans hcell
     rw [Int.toNat_natCast] at hcell
     obtain ⟨zs,ez⟩ : ∃ zs,zs = rd_L2 l0 k := ⟨_,rfl⟩
     rw [← ez] at hcell hC3
     replace hC3 := qq.mk hC3
     replace ez := qq.mk ez
     go_wp2_with ((with_reducible refine gate_builtin (b := .append) (xs := #[.tmp 31,.tmp 32]) rfl ?_);at_builtin;refine Kd.R_append_row (Value.int .u8) 0 (w0 := w) w.heap.size rfl (.tmp 31) (.tmp 32) 22 5 (.int .u8 0) 1 rfl Try.underlying22 info5 rfl (by decide) _ ys zs _ _ _ (fun _ => True) rfl rfl (fun _ _ => trivial) (by repeat (first | exact HW.out.2.1 | apply Kd.jz)) (by repeat (first | exact (Kd.C_below hC3.out HW.out.2.2) | apply Kd.C_drew)) (by repeat (first | exact HW.out.2.2 | apply below_drew)) HW.out.2.2.size ?aL ?_;(case aL => have h1 := HW.out.1;have h2 := take_flat_le l0 (k + 1);have h3 := HS.out;rw [take_rd_L2 hlt,List.length_append,← ez.out,← h1] at h2;omega);intro v1 w3 hr hb hg hat;replace hr := qq.mk hr;replace hb := qq.mk hb;clear hg hat)
     go_roundw
     case rel => exact ⟨k + 1,ys ++ zs,by omega,by go_num,⟨by rw [take_rd_L2 hlt,← HW.out.1,← ez.out],by repeat (first | exact hr.out | apply Kd.jz),by repeat (first | exact hb.out | apply below_drew)⟩⟩
     case measure => simp [intOf];omega
    ·obtain rfl : k = l0.length := by omega
     rw [List.take_length] at HW
     clear hlt hk
     go_wp2
     go_ret
     refine ⟨_,rfl,?_,HW.out.2.2⟩
     rw [← HW.out.1]
     exact HW.out.2.1
end Go.Proofs.Ytipdkendfcopiaa.Pr
namespace Go.Proofs.Ytipdkendfcopiaa.Pr
open Go.RowKit Go.Proofs.YtipdkendfcopiaaW.PrintWords Go.Proofs.YtipdkendfcopiaaW.PrintLast Go.Proofs.YtipdkendfcopiaaW.PrintMore
attribute [local go_sem] max2_int min2_int max_two min_two max_three min_three max_four min_four
set_option linter.unusedVariables false
set_option linter.unusedSimpArgs false
def qzq.f (l0 : List Int) (l1 : List Int) : Option (List Int) := (qjk.f (([(([1] : List Int)),l0,l1] : List (List Int)))).bind fun t107 => ((qqq.f t107).bind fun t110 => (some t110))
set_option maxHeartbeats 8000000 in
set_option maxRecDepth 100000 in
theorem qzq.calls (P0_ : Nat → Prop) (A0 : Option Addr) (c0 : Nat) (l0 : List Int) (P1_ : Nat → Prop) (A1 : Option Addr) (c1 : Nat) (l1 : List Int) (r : List Int) (w : World) (hs0 : Kd.V (Kd.int .u8) 5 w w.heap.size (fun k_ => P0_ k_) (.slice A0 l0.length c0) l0) (hs1 : Kd.V (Kd.int .u8) 5 w w.heap.size (fun k_ => P1_ k_) (.slice A1 l1.length c1) l1) (h : qzq.f l0 l1 = some r) :
  Calls Try.prog 122 #[.slice A0 l0.length c0,.slice A1 l1.length c1] w fun e w' => ∃ v0_ : Value,e = .returned (v0_) ∧ Kd.R (Kd.int .u8) 5 w' w.heap.size (fun k_ => (w.heap.size ≤ k_)) v0_ r ∧ Below w.heap.size w w' := by
 have HO0 := qq.mk (show Kd.V (Kd.int .u8) 5 w w.heap.size (fun k_ => ((P0_ k_ ∨ P1_ k_) ∨ w.heap.size ≤ k_)) (.slice A0 l0.length c0) l0 from Kd.V_mono hs0 (fun k_ hk => .inl (.inl hk)))
 have HO1 := qq.mk (show Kd.V (Kd.int .u8) 5 w w.heap.size (fun k_ => ((P0_ k_ ∨ P1_ k_) ∨ w.heap.size ≤ k_)) (.slice A1 l1.length c1) l1 from Kd.V_mono hs1 (fun k_ hk => .inl (.inr hk)))
 have HB := qq.mk (Below.refl w.heap.size w)
 have H : ((qjk.f (([(([1] : List Int)),l0,l1] : List (List Int)))).bind fun t107 => ((qqq.f t107).bind fun t110 => (some t110))) = some r := h
 clear h
 obtain ⟨y101,hy101⟩ : ∃ y_ : List Int,y_ = (([1] : List Int)) := ⟨_,rfl⟩
 replace H : ((qjk.f (([y101,l0,l1] : List (List Int)))).bind fun t107 => ((qqq.f t107).bind fun t110 => (some t110))) = some r := by first | (rw [hy101];with_reducible exact H) | (have H2_ := (Option.bind_some _ _).symm.trans H;rw [hy101];with_reducible exact H2_) | (have H2_ := (Option.bind_some _ _).symm.trans H;with_reducible exact H2_) | with_reducible exact H | (rw [hy101];exact H) | exact H
 have Ny101 := qq.mk hy101
 clear hy101
 obtain ⟨y104,hy104⟩ : ∃ y_ : List (List Int),y_ = (([y101,l0,l1] : List (List Int))) := ⟨_,rfl⟩
 replace H : ((qjk.f y104).bind fun t107 => ((qqq.f t107).bind fun t110 => (some t110))) = some r := by first | (rw [hy104];with_reducible exact H) | (have H2_ := (Option.bind_some _ _).symm.trans H;rw [hy104];with_reducible exact H2_) | (have H2_ := (Option.bind_some _ _).symm.trans H;with_reducible exact H2_) | with_reducible exact H | (rw [hy104];exact H) | exact H
 have Ny104 := qq.mk hy104
 clear hy104
 replace H := Option.bind_eq_some_iff.mp H
 obtain ⟨t107,A30,H⟩ := H
 replace H : ((qqq.f t107).bind fun t110 => (some t110)) = some r := H
 have A3 := qq.mk A30
 clear A30
 replace H := Option.bind_eq_some_iff.mp H
 obtain ⟨t110,A40,H⟩ := H
 replace H : (some t110) = some r := H
 have A4 := qq.mk A40
 clear A40
 obtain rfl := Option.some.inj H
 go_enter Try.func122,Try.ntmps122
 go_wp2_with (first | ((with_reducible refine gate_dst (N := 5) rfl ?_);refine Kd.R_lit (Kd.int .u8) _ 5 ?hg (N := 5) ?hd (xs := ([1] : List Int)) (inner := [.int .u8 1]) (ok := fun _ => True) (okp := fun _ => True) ?hr ?hp (fun _ hk => hk) trivial (Below.refl _ _) (Nat.le_refl _) (by simp) ?_;(case hd => rfl);(case hg => rfl);(case hr => first | (go_simp;done) | (go_simp;rfl));(case hp => exact (Reps.one (show Kd.M (Kd.int .u8) _ _ _ 1 [.int .u8 1] from rfl) (Reps.none _ _)));intro v102 w5 ho6 hb hg_ hnew_;clear hg_ hnew_;(first | rw [← Ny101.out] at ho6 | (simp only [Int.reduceToNat] at ho6;rw [← Ny101.out] at ho6));have n0_ := qq.mk (Kd.V_elder' (by (with_reducible repeat (first | apply Kd.wq | apply Kd.vx | apply Kd.wz));exact HO0.out) (Kd.R_base ho6) hb);have n1_ := qq.mk (Kd.V_elder' (by (with_reducible repeat (first | apply Kd.wq | apply Kd.vx | apply Kd.wz));exact HO1.out) (Kd.R_base ho6) hb);have n2_ := qq.mk (Kd.R_lower (Kd.R_newM (M := fun k_ => (w.heap.size ≤ k_)) ho6 (zw (by repeat (first | (with_reducible first | exact HB.out | apply qj | apply qz | apply qk) | exact HB.out))) (fun k_ h_ => h_)) (zw (by repeat (first | (with_reducible first | exact HB.out | apply qj | apply qz | apply qk) | exact HB.out))));have n3_ := qq.mk (zv (by repeat (first | (with_reducible first | exact HB.out | apply qj | apply qz | apply qk) | exact HB.out)) hb);clear HO0;clear HO1;clear HB;have HO0 := n0_;have HO1 := n1_;have HO103 := n2_;have HB := n3_;clear n0_ n1_ n2_ n3_;clear hb ho6;obtain ⟨Ao7,co7,eo7⟩ := Kd.R_slice HO103.out;subst eo7) | ((with_reducible refine gate_dst (N := 8) rfl ?_);refine Kd.N_lit (Kd.slice 5 (Kd.int .u8)) _ 22 ?hg (N' := 8) ?hd (xs := ([y101,l0,l1] : List (List Int))) (inner := [.slice Ao7 y101.length co7,.slice A0 l0.length c0,.slice A1 l1.length c1]) (ok := (fun k_ => ((P0_ k_ ∨ P1_ k_) ∨ w.heap.size ≤ k_))) (okp := (fun k_ => ((P0_ k_ ∨ P1_ k_) ∨ w.heap.size ≤ k_))) ?hr ?hp (fun _ hk => hk) ((show ∀ k_,w5.heap.size ≤ k_ → (fun k_ => ((P0_ k_ ∨ P1_ k_) ∨ w.heap.size ≤ k_)) k_ from fun k_ hk => (.inr (Nat.le_trans (zw (by repeat (first | (with_reducible first | exact HB.out | apply qj | apply qz | apply qk) | exact HB.out))) hk))) _ (Nat.le_refl _)) (Below.refl _ _) (Nat.le_refl _) (by simp) ?_;(case hd => rfl);(case hg => rfl);(case hr => first | (go_simp;done) | (go_simp;rfl));(case hp => exact (Reps.one (show Kd.FK (Kd.slice 5 (Kd.int .u8)) _ _ y101 [.slice Ao7 y101.length co7] from (Kd.FK_slice_mk (Kd.R_reads' (Kd.R_mono (ok' := (fun k_ => ((P0_ k_ ∨ P1_ k_) ∨ w.heap.size ≤ k_))) (HO103.out) (fun k_ hk => (.inr (hk.1))))).2.1 (Kd.R_F (Kd.R_mono (ok' := (fun k_ => ((P0_ k_ ∨ P1_ k_) ∨ w.heap.size ≤ k_))) (HO103.out) (fun k_ hk => (.inr (hk.1))))))) (Reps.one (show Kd.FK (Kd.slice 5 (Kd.int .u8)) _ _ l0 [.slice A0 l0.length c0] from (Kd.FK_slice_mk (Kd.V_reads' (Kd.V_mono (ok' := (fun k_ => ((P0_ k_ ∨ P1_ k_) ∨ w.heap.size ≤ k_))) (HO0.out) (fun k_ hk => hk.1))).2.1 (Kd.V_F (Kd.V_mono (ok' := (fun k_ => ((P0_ k_ ∨ P1_ k_) ∨ w.heap.size ≤ k_))) (HO0.out) (fun k_ hk => hk.1))))) (Reps.one (show Kd.FK (Kd.slice 5 (Kd.int .u8)) _ _ l1 [.slice A1 l1.length c1] from (Kd.FK_slice_mk (Kd.V_reads' (Kd.V_mono (ok' := (fun k_ => ((P0_ k_ ∨ P1_ k_) ∨ w.heap.size ≤ k_))) (HO1.out) (fun k_ hk => hk.1))).2.1 (Kd.V_F (Kd.V_mono (ok' := (fun k_ => ((P0_ k_ ∨ P1_ k_) ∨ w.heap.size ≤ k_))) (HO1.out) (fun k_ hk => hk.1))))) (Reps.none _ _)))));intro v105 w8 ho9 hb hg_ hnew_;clear hg_ hnew_;(first | rw [← Ny104.out] at ho9 | (simp only [Int.reduceToNat] at ho9;rw [← Ny104.out] at ho9));have n0_ := qq.mk (Kd.V_elder' (by (with_reducible repeat (first | apply Kd.wq | apply Kd.vx | apply Kd.wz));exact HO0.out) (Kd.N_base ho9) hb);have n1_ := qq.mk (Kd.V_elder' (by (with_reducible repeat (first | apply Kd.wq | apply Kd.vx | apply Kd.wz));exact HO1.out) (Kd.N_base ho9) hb);have n2_ := qq.mk (Kd.N_lower ho9 (zw (by repeat (first | (with_reducible first | exact HB.out | apply qj | apply qz | apply qk) | exact HB.out))));have n3_ := qq.mk (zv (by repeat (first | (with_reducible first | exact HB.out | apply qj | apply qz | apply qk) | exact HB.out)) hb);clear HO0;clear HO1;clear HB;clear HO103;have HO0 := n0_;have HO1 := n1_;have HO106 := n2_;have HB := n3_;clear n0_ n1_ n2_ n3_;clear hb ho9;obtain ⟨Ao10,co10,eo10⟩ := Kd.N_slice HO106.out;subst eo10) | ((with_reducible refine kj (f := 78) rfl ?_);refine goesL_ (some 9) rfl rfl Try.func78 (by kernel_rfl) rfl #[.slice Ao10 y104.length co10] rfl (by (try simp only [List.map_toArray,List.map_cons,List.map_nil]);first | done | rfl | (simp only [List.length_drop,List.length_take];rfl)) ?_;(with_reducible refine (qjk.calls _ _ y104 t107 _ ?side1 ?side2 A3.out).mono ?_);(case side1 => repeat (first | exact (Kd.N_reads' HO106.out).2.2 | (with_reducible refine Kd.C_alloc ?_ _) | (with_reducible refine Kd.C_drewN ?_ _) | (with_reducible refine Kd.C_drew ?_)));(case side2 => exact (Kd.N_reads' HO106.out).2.1);rintro e w11 ⟨v108,rfl,ho0,hb⟩;refine ⟨_,rfl,?_⟩;have n0_ := qq.mk (Kd.V_elder' (by (with_reducible repeat (first | apply Kd.wq | apply Kd.vx | apply Kd.wz));exact HO0.out) (Kd.R_base ho0) hb);have n1_ := qq.mk (Kd.V_elder' (by (with_reducible repeat (first | apply Kd.wq | apply Kd.vx | apply Kd.wz));exact HO1.out) (Kd.R_base ho0) hb);have n2_ := qq.mk (Kd.N_elder' (by (with_reducible repeat (first | apply Kd.vq | apply Kd.kx | apply Kd.vz));exact HO106.out) (Kd.R_base ho0) hb);have n3_ := qq.mk (Kd.R_lower (Kd.R_newM (M := fun k_ => (w.heap.size ≤ k_)) ho0 (zw (by repeat (first | (with_reducible first | exact HB.out | apply qj | apply qz | apply qk) | exact HB.out))) (fun k_ h_ => h_)) (zw (by repeat (first | (with_reducible first | exact HB.out | apply qj | apply qz | apply qk) | exact HB.out))));have n4_ := qq.mk (zv (by repeat (first | (with_reducible first | exact HB.out | apply qj | apply qz | apply qk) | exact HB.out)) hb);clear HO0;clear HO1;clear HO106;clear HB;have HO0 := n0_;have HO1 := n1_;have HO106 := n2_;have HO109 := n3_;have HB := n4_;clear n0_ n1_ n2_ n3_ n4_;(try clear hb);(try clear hb2);(try clear hk);(try clear hi);(try clear ho0);obtain ⟨Ao12,co12,eo12⟩ := Kd.R_slice HO109.out;subst eo12) | ((with_reducible refine kj (f := 77) rfl ?_);refine goesL_ (some 10) rfl rfl Try.func77 (by kernel_rfl) rfl #[.slice Ao12 t107.length co12] rfl (by (try simp only [List.map_toArray,List.map_cons,List.map_nil]);first | done | rfl | (simp only [List.length_drop,List.length_take];rfl)) ?_;(with_reducible refine (qqq.calls _ _ t107 t110 _ ?side1 ?side2 A4.out).mono ?_);(case side1 => repeat (first | exact (Kd.R_reads' HO109.out).2.2 | (with_reducible refine Kd.C_alloc ?_ _) | (with_reducible refine Kd.C_drewN ?_ _) | (with_reducible refine Kd.C_drew ?_)));(case side2 => exact (Kd.R_reads' HO109.out).2.1);rintro e w13 ⟨v111,rfl,ho0,hb⟩;refine ⟨_,rfl,?_⟩;have n0_ := qq.mk (Kd.V_elder' (by (with_reducible repeat (first | apply Kd.wq | apply Kd.vx | apply Kd.wz));exact HO0.out) (Kd.R_base ho0) hb);have n1_ := qq.mk (Kd.V_elder' (by (with_reducible repeat (first | apply Kd.wq | apply Kd.vx | apply Kd.wz));exact HO1.out) (Kd.R_base ho0) hb);have n2_ := qq.mk (Kd.N_elder' (by (with_reducible repeat (first | apply Kd.vq | apply Kd.kx | apply Kd.vz));exact HO106.out) (Kd.R_base ho0) hb);have n3_ := qq.mk (Kd.R_elder' (by (with_reducible repeat (first | apply Kd.jq | apply Kd.zx | apply Kd.jz));exact HO109.out) (Kd.R_base ho0) hb);have n4_ := qq.mk (Kd.R_lower (Kd.R_new' (Kd.R_newM (M := fun k_ => (w.heap.size ≤ k_)) ho0 (zw (by repeat (first | (with_reducible first | exact HB.out | apply qj | apply qz | apply qk) | exact HB.out))) (fun k_ h_ => h_)) (Kd.R_lt (by (with_reducible repeat (first | apply Kd.jq | apply Kd.zx | apply Kd.jz));exact HO109.out))) (zw (by repeat (first | (with_reducible first | exact HB.out | apply qj | apply qz | apply qk) | exact HB.out))));have n5_ := qq.mk (zv (by repeat (first | (with_reducible first | exact HB.out | apply qj | apply qz | apply qk) | exact HB.out)) hb);clear HO0;clear HO1;clear HO106;clear HO109;clear HB;have HO0 := n0_;have HO1 := n1_;have HO106 := n2_;have HO109 := n3_;have HO112 := n4_;have HB := n5_;clear n0_ n1_ n2_ n3_ n4_ n5_;(try clear hb);(try clear hb2);(try clear hk);(try clear hi);(try clear ho0)))
 go_ret
 exact ⟨_,by first | rfl | (simp [*,kz,jx] <;> rfl),by (with_reducible repeat (first | apply Kd.jq | apply Kd.zx | apply Kd.jz));exact Kd.R_mono HO112.out (fun _ hk => hk.1.1),by repeat (first | (with_reducible first | exact HB.out | apply qj | apply qz | apply qk) | exact HB.out)⟩
end Go.Proofs.Ytipdkendfcopiaa.Pr
namespace Go.Proofs.Ytipdkendfcopiaa.Pr
open Go.RowKit Go.Proofs.Ytipdkendfcopiaa.Read Go.Proofs.YtipdkendfcopiaaW.PrintWords Go.Proofs.YtipdkendfcopiaaW.PrintLast Go.Proofs.YtipdkendfcopiaaW.PrintMore
set_option linter.unusedVariables false
def cutL (n : Int) : Int := (qzj.f 300 n).getD 1
theorem cut_fin : ∀ n : Fin 201,2 ≤ n.val → qvx.f 300 (n.val : Int) = some (cutL n.val) ∧ qzj.f 300 (n.val : Int) = some (cutL n.val) ∧ 1 ≤ cutL n.val ∧ cutL n.val < n.val := by decide +kernel
theorem cut_facts (n : Int) (h0 : 2 ≤ n) (h1 : n ≤ 200) : qvx.f 300 n = some (cutL n) ∧ qzj.f 300 n = some (cutL n) ∧ 1 ≤ cutL n ∧ cutL n < n := by
 obtain ⟨m,rfl⟩ : ∃ m : Nat,n = m := ⟨n.toNat,by omega⟩
 exact cut_fin ⟨m,by omega⟩ (by show 2 ≤ m;omega)
def nodeL (a b : List Int) : List Int := dg ([1] ++ a ++ b)
def six (b : List Int) : Prop := isBytes b ∧ b.length ≤ 16
theorem one_bytes : isBytes [1] := by
 intro x hx
 simp at hx
 omega
theorem node_six (a b : List Int) : six (nodeL a b) := ⟨dg_bytes _,by unfold nodeL;rw [dg_len];omega⟩
theorem node_len (a b : List Int) : (nodeL a b).length = 16 := dg_len _
theorem specNode_eq (a b : List Int) (ha : six a) (hb : six b) : qwj.f 1000 a b = some (nodeL a b) := by
 have h1 := ha.2
 have h2 := hb.2
 unfold qwj.f
 simp only [Option.bind_some,if_pos (show ([1] : List Int).length + a.length < 140737488355328 by simp;omega),if_pos (show (([1] : List Int) ++ a).length + b.length < 140737488355328 by simp;omega)]
 rw [specDigest_eq _ (isBytes_append (isBytes_append one_bytes ha.1) hb.1) (by simp;omega) 1000 (by simp;omega)]
 rfl
theorem implNode_eq (a b : List Int) (ha : six a) (hb : six b) : qzq.f a b = some (nodeL a b) := by
 have h1 := ha.2
 have h2 := hb.2
 have hf : ([[1],a,b] : List (List Int)).flatten = [1] ++ a ++ b := by simp
 have e : qjk.f [[1],a,b] = some ([1] ++ a ++ b) := by
  unfold qjk.f
  rw [hf,if_pos (by simp;omega)]
 unfold qzq.f
 rw [e,Option.bind_some,implDigest_eq _ (isBytes_append (isBytes_append one_bytes ha.1) hb.1) (by simp;omega)]
 rfl
attribute [irreducible] nodeL
def upL (leaf : List Int) (path : List (List Int)) : Nat → Int → Int → List Int × Bool
 | 0,_,size => if size = 1 then (leaf,true) else ([],false)
 | n + 1,at_,size => if size = 1 then (leaf,false) else if at_ < cutL size then (nodeL (upL leaf path n at_ (cutL size)).1 (rd_L2 path n),(upL leaf path n at_ (cutL size)).2) else (nodeL (rd_L2 path n) (upL leaf path n (at_ - cutL size) (size - cutL size)).1,(upL leaf path n (at_ - cutL size) (size - cutL size)).2)
theorem up_one (leaf : List Int) (path : List (List Int)) (n : Nat) (a : Int) : upL leaf path (n + 1) a 1 = (leaf,false) := if_pos rfl
theorem up_low (leaf : List Int) (path : List (List Int)) (n : Nat) (a s : Int) (h1 : s ≠ 1) (h2 : a < cutL s) : upL leaf path (n + 1) a s = (nodeL (upL leaf path n a (cutL s)).1 (rd_L2 path n),(upL leaf path n a (cutL s)).2) := (if_neg h1).trans (if_pos h2)
theorem up_high (leaf : List Int) (path : List (List Int)) (n : Nat) (a s : Int) (h1 : s ≠ 1) (h2 : ¬ a < cutL s) : upL leaf path (n + 1) a s = (nodeL (rd_L2 path n) (upL leaf path n (a - cutL s) (s - cutL s)).1,(upL leaf path n (a - cutL s) (s - cutL s)).2) := (if_neg h1).trans (if_neg h2)
theorem nil_six : six [] := ⟨fun x hx => absurd hx List.not_mem_nil,Nat.zero_le _⟩
theorem up_six (leaf : List Int) (path : List (List Int)) (hl : six leaf) (n : Nat) (a s : Int) : six (upL leaf path n a s).1 := by
 cases n with
 | zero =>
  by_cases h : s = 1
  ·rw [show upL leaf path 0 a s = (leaf,true) from if_pos h];exact hl
  ·rw [show upL leaf path 0 a s = ([],false) from if_neg h];exact nil_six
 | succ n =>
  by_cases h : s = 1
  ·subst h
   rw [up_one];exact hl
  ·by_cases h2 : a < cutL s
   ·rw [up_low _ _ _ _ _ h h2];exact node_six _ _
   ·rw [up_high _ _ _ _ _ h h2];exact node_six _ _
theorem rd_take {path : List (List Int)} {n : Nat} (h : n < path.length) : rd_L2 (path.take (n + 1)) (n : Int) = rd_L2 path n := by
 simp [rd_L2,List.getD_eq_getElem?_getD]
theorem rd_six {path : List (List Int)} (hp : ∀ b ∈ path,six b) {n : Nat} (h : n < path.length) : six (rd_L2 path n) := by
 refine hp _ ?_
 simp [rd_L2,List.getD_eq_getElem?_getD,List.getElem?_eq_getElem h]
set_option maxHeartbeats 2000000 in
set_option maxRecDepth 100000 in
theorem specUp_calls (leaf : List Int) (path : List (List Int)) (hl : six leaf) (hp : ∀ b ∈ path,six b) : ∀ (n : Nat) (a s : Int) (w : World) (A0 : Option Addr) (c0 : Nat) (A3 : Option Addr) (c3 : Nat),n ≤ path.length → 0 ≤ a → a < s → s ≤ 200 → Kd.C (Kd.int .u8) w A0 leaf.length leaf → leaf.length ≤ c0 → Kd.C (Kd.slice 5 (Kd.int .u8)) w A3 n (path.take n) → n ≤ c3 →
  Calls Try.prog 91 #[.slice A0 leaf.length c0,.int .i64 a,.int .i64 s,.slice A3 n c3] w fun e w' => ∃ (A : Option Addr) (c : Nat),e = .returned (.tuple #[.slice A (upL leaf path n a s).1.length c,.bool (upL leaf path n a s).2]) ∧ (upL leaf path n a s).1.length ≤ c ∧ Kd.C (Kd.int .u8) w' A (upL leaf path n a s).1.length (upL leaf path n a s).1 ∧ Below w.heap.size w w' := by
 intro n
 induction n with
 | zero =>
  intro a s w A0 c0 A3 c3 hn ha0 ha1 hs hC hc hC3 hc3
  have HC := qq.mk hC
  have HL := qq.mk hc
  clear hC hc hC3 hc3
  by_cases h1 : s = 1
  ·subst h1
   rw [show upL leaf path 0 a 1 = (leaf,true) from if_pos rfl]
   go_enter Try.func91,Try.ntmps91
   go_wp2
   go_ret2
   exact ⟨A0,c0,rfl,HL.out,HC.out,Below.refl _ _⟩
  ·rw [show upL leaf path 0 a s = ([],false) from if_neg h1]
   go_enter Try.func91,Try.ntmps91
   go_wp2
   go_ret2
   exact ⟨none,0,rfl,by simp,Kd.C_nil _ _,Below.refl _ _⟩
 | succ n ih =>
  intro a s w A0 c0 A3 c3 hn ha0 ha1 hs hC hc hC3 hc3
  have HC := qq.mk hC
  have HL := qq.mk hc
  have HC3 := qq.mk hC3
  by_cases h1 : s = 1
  ·subst h1
   rw [show upL leaf path (n + 1) a 1 = (leaf,false) from if_pos rfl]
   clear hC hc hC3
   go_enter Try.func91,Try.ntmps91
   go_wp2
   go_ret2
   exact ⟨A0,c0,rfl,HL.out,HC.out,Below.refl _ _⟩
  ·obtain ⟨e1,_,k0,k1⟩ := cut_facts s (by omega) hs
   obtain ⟨ad,A1,c1,rfl,hcell,hl1,hC1⟩ := at_L2 hC3 (n : Int) (by omega) (by omega)
   rw [rd_take (by omega)] at hcell hl1 hC1
   rw [Int.toNat_natCast] at hcell
   obtain ⟨last,elast⟩ : ∃ x,x = rd_L2 path n := ⟨_,rfl⟩
   rw [← elast] at hcell hl1 hC1
   have hlast : six last := by rw [elast];exact rd_six hp (by omega)
   have HCT := qq.mk (Kd.C_take (m := n) (by rw [List.length_take,Nat.min_eq_left hn];exact hC3) (by rw [List.length_take,Nat.min_eq_left hn];omega))
   have HM := qq.mk (Kd.C_max hC3)
   clear hC hc hC3
   by_cases h2 : a < cutL s
   ·rw [up_low _ _ _ _ _ h1 h2,← elast]
    have hsx := up_six leaf path hl n a (cutL s)
    have IH := fun (W : World) (hb : Below w.heap.size w W) => ih a (cutL s) W A0 c0 (some ad) c3 (by omega) ha0 h2 (by omega) (Kd.C_below HC.out hb) HL.out (by have := Kd.C_below HCT.out hb;rwa [List.take_take,Nat.min_eq_left (by omega),List.length_take,Nat.min_eq_left (by omega)] at this) (by omega)
    generalize upL leaf path n a (cutL s) = res at IH hsx
    obtain ⟨r1,r2⟩ := res
    dsimp only at IH hsx ⊢
    have hnode := specNode_eq r1 last hsx hlast
    have HN := qq.mk hnode
    have HI := qq.mk IH
    have HLA := qq.mk hC1
    have E1 := qq.mk e1
    have EL := qq.mk elast
    have HS := qq.mk (And.intro hsx hlast)
    clear hnode IH hC1 e1 elast hsx hlast ih
    obtain ⟨q,eq⟩ : ∃ q,q = cutL s := ⟨_,rfl⟩
    rw [← eq] at E1 HI h2 k0 k1
    clear eq
    have hm := HM.out
    have hw1 : wrap64 (n : Int) = (n : Int) := w64 (by omega) (by omega)
    go_enter Try.func91,Try.ntmps91
    go_wp2_with (first | (go_at_call 119;refine (qvx.calls 300 s q _ E1.out).mono ?_;rintro e w' ⟨rfl,⟨⟨nd,rfl⟩⟩⟩) | (go_at_call 91;refine (HI.out _ (by repeat (first | exact Below.refl _ _ | apply qz | apply below_drew))).mono ?_;rintro e w1 ⟨AR,cR,rfl,hR,hCR,hBR⟩;replace hR := qq.mk hR;replace hCR := qq.mk hCR;replace hBR : qq (Below w.heap.size w w1) := ⟨zv (by repeat (first | exact Below.refl _ _ | apply qz | apply below_drew)) hBR⟩) | (go_at_call 120;refine (qwj.calls 1000 AR cR r1 A1 c1 last (nodeL r1 last) _ (by repeat (first | exact hCR.out | apply Kd.C_drewN | apply Kd.C_drew)) hR.out (by repeat (first | exact Kd.C_below HLA.out hBR.out | apply Kd.C_drewN | apply Kd.C_drew)) hl1 HN.out).mono ?_;rintro e w2 ⟨v2,rfl,hR2,hB2⟩;obtain ⟨A2,c2,rfl⟩ := Kd.R_slice hR2;replace hR2 := qq.mk hR2;replace hB2 : qq (Below w.heap.size w w2) := ⟨zv (by repeat (first | exact hBR.out | apply qz | apply below_drew)) hB2⟩))
    go_ret2
    obtain ⟨A',c',he,hc',hC'⟩ := Kd.R_reads hR2.out
    injection he with i1 i2 i3
    subst i1 i3
    exact ⟨_,_,rfl,hc',hC',hB2.out⟩
   ·rw [up_high _ _ _ _ _ h1 h2,← elast]
    have hsx := up_six leaf path hl n (a - cutL s) (s - cutL s)
    have IH := fun (W : World) (hb : Below w.heap.size w W) => ih (a - cutL s) (s - cutL s) W A0 c0 (some ad) c3 (by omega) (by omega) (by omega) (by omega) (Kd.C_below HC.out hb) HL.out (by have := Kd.C_below HCT.out hb;rwa [List.take_take,Nat.min_eq_left (by omega),List.length_take,Nat.min_eq_left (by omega)] at this) (by omega)
    generalize upL leaf path n (a - cutL s) (s - cutL s) = res at IH hsx
    obtain ⟨r1,r2⟩ := res
    dsimp only at IH hsx ⊢
    have hnode := specNode_eq last r1 hlast hsx
    have HN := qq.mk hnode
    have HI := qq.mk IH
    have HLA := qq.mk hC1
    have E1 := qq.mk e1
    have EL := qq.mk elast
    have HS := qq.mk (And.intro hsx hlast)
    clear hnode IH hC1 e1 elast hsx hlast ih
    obtain ⟨q,eq⟩ : ∃ q,q = cutL s := ⟨_,rfl⟩
    rw [← eq] at E1 HI h2 k0 k1
    clear eq
    have hm := HM.out
    have hw1 : wrap64 (n : Int) = (n : Int) := w64 (by omega) (by omega)
    have hw2 : wrap64 (a - q) = a - q := w64 (by omega) (by omega)
    have hw3 : wrap64 (s - q) = s - q := w64 (by omega) (by omega)
    go_enter Try.func91,Try.ntmps91
    go_wp2_with (first | (go_at_call 119;refine (qvx.calls 300 s q _ E1.out).mono ?_;rintro e w' ⟨rfl,⟨⟨nd,rfl⟩⟩⟩) | (go_at_call 91;refine (HI.out _ (by repeat (first | exact Below.refl _ _ | apply qz | apply below_drew))).mono ?_;rintro e w1 ⟨AR,cR,rfl,hR,hCR,hBR⟩;replace hR := qq.mk hR;replace hCR := qq.mk hCR;replace hBR : qq (Below w.heap.size w w1) := ⟨zv (by repeat (first | exact Below.refl _ _ | apply qz | apply below_drew)) hBR⟩) | (go_at_call 120;refine (qwj.calls 1000 A1 c1 last AR cR r1 (nodeL last r1) _ (by repeat (first | exact Kd.C_below HLA.out hBR.out | apply Kd.C_drewN | apply Kd.C_drew)) hl1 (by repeat (first | exact hCR.out | apply Kd.C_drewN | apply Kd.C_drew)) hR.out HN.out).mono ?_;rintro e w2 ⟨v2,rfl,hR2,hB2⟩;obtain ⟨A2,c2,rfl⟩ := Kd.R_slice hR2;replace hR2 := qq.mk hR2;replace hB2 : qq (Below w.heap.size w w2) := ⟨zv (by repeat (first | exact hBR.out | apply qz | apply below_drew)) hB2⟩))
    go_ret2
    obtain ⟨A',c',he,hc',hC'⟩ := Kd.R_reads hR2.out
    injection he with i1 i2 i3
    subst i1 i3
    exact ⟨_,_,rfl,hc',hC',hB2.out⟩
end Go.Proofs.Ytipdkendfcopiaa.Pr
namespace Go.Proofs.Ytipdkendfcopiaa.Pr
open Go.RowKit Go.Proofs.Ytipdkendfcopiaa.Read Go.Proofs.YtipdkendfcopiaaW.PrintWords Go.Proofs.YtipdkendfcopiaaW.PrintLast Go.Proofs.YtipdkendfcopiaaW.PrintMore
set_option linter.unusedVariables false
theorem V_of_C {w : World} {A : Option Addr} {c : Nat} {xs : List Int} {e base : Nat} (h : Kd.C (Kd.int .u8) w A xs.length xs) (hc : xs.length ≤ c) : Kd.V (Kd.int .u8) e w base (fun k_ => (fun _ => True) k_) (.slice A xs.length c) xs :=
 Kd.V_mk hc (fun W' hW => Kd.Heap.C (Kd.heap_int .u8) (fun k hk => hW k trivial hk) h)
structure ClimbPost (w : World) (r : List Int × Bool) (e : Ending) (w' : World) : Prop where
 yes : r.2 = true → ∃ ad c,e = .returned (.slice (some ad) r.1.length c) ∧ r.1.length ≤ c ∧ Kd.C (Kd.int .u8) w' (some ad) r.1.length r.1
 no : r.2 = false → e = .returned (.slice none 0 0)
 below : Below w.heap.size w w'
set_option maxHeartbeats 2000000 in
set_option maxRecDepth 100000 in
theorem climb_calls (leaf : List Int) (path : List (List Int)) (hl : six leaf) (hl2 : 0 < leaf.length) (hp : ∀ b ∈ path,six b) : ∀ (n : Nat) (a s : Int) (w : World) (A0 : Option Addr) (c0 : Nat) (A3 : Option Addr) (c3 : Nat),n ≤ path.length → 0 ≤ a → a < s → s ≤ 200 → Kd.C (Kd.int .u8) w A0 leaf.length leaf → leaf.length ≤ c0 → Kd.C (Kd.slice 5 (Kd.int .u8)) w A3 n (path.take n) → n ≤ c3 →
  Calls Try.prog 93 #[.slice A0 leaf.length c0,.int .i64 a,.int .i64 s,.slice A3 n c3] w fun e w' => ClimbPost w (upL leaf path n a s) e w' := by
 intro n
 induction n with
 | zero =>
  intro a s w A0 c0 A3 c3 hn ha0 ha1 hs hC hc hC3 hc3
  have HC := qq.mk hC
  have HL := qq.mk hc
  obtain ⟨ad,rfl,_⟩ := hC.2.2 hl2
  clear hC hc hC3 hc3
  by_cases h1 : s = 1
  ·subst h1
   rw [show upL leaf path 0 a 1 = (leaf,true) from if_pos rfl]
   go_enter Try.func93,Try.ntmps93
   go_wp2
   go_ret
   exact ⟨fun _ => ⟨ad,c0,rfl,HL.out,HC.out⟩,fun h => Bool.noConfusion h,Below.refl _ _⟩
  ·rw [show upL leaf path 0 a s = ([],false) from if_neg h1]
   go_enter Try.func93,Try.ntmps93
   go_wp2
   go_ret
   exact ⟨fun h => Bool.noConfusion h,fun _ => rfl,Below.refl _ _⟩
 | succ n ih =>
  intro a s w A0 c0 A3 c3 hn ha0 ha1 hs hC hc hC3 hc3
  have HC := qq.mk hC
  have HL := qq.mk hc
  have HC3 := qq.mk hC3
  by_cases h1 : s = 1
  ·subst h1
   rw [show upL leaf path (n + 1) a 1 = (leaf,false) from if_pos rfl]
   clear hC hc hC3
   go_enter Try.func93,Try.ntmps93
   go_wp2
   go_ret
   exact ⟨fun h => Bool.noConfusion h,fun _ => rfl,Below.refl _ _⟩
  ·obtain ⟨_,e1,k0,k1⟩ := cut_facts s (by omega) hs
   obtain ⟨ad,A1,c1,rfl,hcell,hl1,hC1⟩ := at_L2 hC3 (n : Int) (by omega) (by omega)
   rw [rd_take (by omega)] at hcell hl1 hC1
   rw [Int.toNat_natCast] at hcell
   obtain ⟨last,elast⟩ : ∃ x,x = rd_L2 path n := ⟨_,rfl⟩
   rw [← elast] at hcell hl1 hC1
   have hlast : six last := by rw [elast];exact rd_six hp (by omega)
   have HCT := qq.mk (Kd.C_take (m := n) (by rw [List.length_take,Nat.min_eq_left hn];exact hC3) (by rw [List.length_take,Nat.min_eq_left hn];omega))
   have HM := qq.mk (Kd.C_max hC3)
   clear hC hc hC3
   have hm := HM.out
   have hw1 : wrap64 (n : Int) = (n : Int) := w64 (by omega) (by omega)
   have hw4 : wrap64 ((n : Int) + 1 - 1) = (n : Int) := by rw [show (n : Int) + 1 - 1 = n by omega];exact hw1
   have hw5 : IntKind.i64.wrap ((n : Int) + 1 - 1) = (n : Int) := by rw [show (n : Int) + 1 - 1 = n by omega];exact IntWalk.i64_in _ (by omega)
   have hw6 : IntKind.i64.wrap (n : Int) = (n : Int) := IntWalk.i64_in _ (by omega)
   have hb0 : (0 : Int) ≤ (n : Int) := by omega
   have hb1 : (n : Int) < (n : Int) + 1 := by omega
   have hs1 : (s == 1) = false := beq_eq_false_iff_ne.2 h1
   have hn1 : ((n : Int) + 1 == 0) = false := beq_eq_false_iff_ne.2 (by omega)
   have E1 := qq.mk e1
   clear e1
   by_cases h2 : a < cutL s
   ·rw [up_low _ _ _ _ _ h1 h2,← elast]
    have hsx := up_six leaf path hl n a (cutL s)
    have IH := fun (W : World) (hb : Below w.heap.size w W) => ih a (cutL s) W A0 c0 (some ad) c3 (by omega) (by omega) (by omega) (by omega) (Kd.C_below HC.out hb) HL.out (by have := Kd.C_below HCT.out hb;rwa [List.take_take,Nat.min_eq_left (by omega),List.length_take,Nat.min_eq_left (by omega)] at this) (by omega)
    generalize upL leaf path n a (cutL s) = res at IH hsx
    obtain ⟨r1,r2⟩ := res
    dsimp only at IH hsx ⊢
    have HN := qq.mk (implNode_eq r1 last hsx hlast)
    have hlen := node_len r1 last
    have HI := qq.mk IH
    have HLA := qq.mk hC1
    have EL := qq.mk elast
    clear IH hC1 elast hsx hlast ih
    obtain ⟨q,eq⟩ : ∃ q,q = cutL s := ⟨_,rfl⟩
    rw [← eq] at E1 HI h2 k0 k1
    clear eq
    obtain ⟨nd_,end_⟩ : ∃ x,x = nodeL r1 last := ⟨_,rfl⟩
    rw [← end_] at HN hlen ⊢
    have HNL := qq.mk hlen
    have END := qq.mk end_
    clear hlen end_
    cases r2 with
    | true =>
     have qe := fun (W : World) (ad' : Addr) (c' : Nat) => Lib.run_eql_slice_nil (P := Try.prog) W 22 5 (some ad') r1.length c' 0 0 Try.underlying22
     go_enter Try.func93,Try.ntmps93
     go_wp2
     go_region_held3 (fun w' => w'.cell? (ad.add n) = some (.slice A1 last.length c1)) (go_keep) (first | (go_at_call 121;refine (qzj.calls 300 s q _ E1.out).mono ?_;rintro e w' ⟨rfl,⟨⟨nd,rfl⟩⟩⟩))
     go_wp2_with (first | (go_at_call 93;refine (HI.out _ (by repeat (first | exact Below.refl _ _ | apply qz | apply below_drew))).mono ?_;rintro e w1 hpost;obtain ⟨AR,cR,rfl,hR,hCR⟩ := hpost.yes rfl;have hBR0 := hpost.below;clear hpost;replace hR := qq.mk hR;replace hCR := qq.mk hCR;have hBR : qq (Below w.heap.size w w1) := ⟨zv (by repeat (first | exact Below.refl _ _ | apply qz | apply below_drew)) hBR0⟩;clear hBR0) | (go_at_call 122;refine (qzq.calls (fun _ => True) (some AR) cR r1 (fun _ => True) A1 c1 last nd_ _ (V_of_C (by repeat (first | exact hCR.out | apply Kd.C_drewN | apply Kd.C_drew)) hR.out) (V_of_C (by repeat (first | exact Kd.C_below HLA.out hBR.out | apply Kd.C_drewN | apply Kd.C_drew)) hl1) HN.out).mono ?_;rintro e w2 ⟨v2,rfl,hR2,hB2⟩;obtain ⟨A2,c2,rfl⟩ := Kd.R_slice hR2;replace hR2 := qq.mk hR2;replace hB2 : qq (Below w.heap.size w w2) := ⟨zv (by repeat (first | exact hBR.out | apply qz | apply below_drew)) hB2⟩))
     go_ret
     obtain ⟨A',c',he,hc',hC'⟩ := Kd.R_reads hR2.out
     injection he with i1 i2 i3
     subst i1 i3
     obtain ⟨ad2,rfl,_⟩ := hC'.2.2 (by rw [HNL.out];omega)
     exact ⟨fun _ => ⟨ad2,_,rfl,hc',hC'⟩,fun h => Bool.noConfusion h,by repeat (first | exact hB2.out | apply qz | apply below_drew)⟩
    | false =>
     have qe := fun (W : World) => Lib.run_eql_slice_nil (P := Try.prog) W 22 5 none 0 0 0 0 Try.underlying22
     go_enter Try.func93,Try.ntmps93
     go_wp2
     go_region_held3 (fun w' => w'.cell? (ad.add n) = some (.slice A1 last.length c1)) (go_keep) (first | (go_at_call 121;refine (qzj.calls 300 s q _ E1.out).mono ?_;rintro e w' ⟨rfl,⟨⟨nd,rfl⟩⟩⟩))
     go_wp2_with (first | (go_at_call 93;refine (HI.out _ (by repeat (first | exact Below.refl _ _ | apply qz | apply below_drew))).mono ?_;rintro e w1 hpost;obtain rfl := hpost.no rfl;have hBR0 := hpost.below;clear hpost;have hBR : qq (Below w.heap.size w w1) := ⟨zv (by repeat (first | exact Below.refl _ _ | apply qz | apply below_drew)) hBR0⟩;clear hBR0))
     go_ret
     exact ⟨fun h => Bool.noConfusion h,fun _ => rfl,by repeat (first | exact hBR.out | apply qz | apply below_drew)⟩
   ·rw [up_high _ _ _ _ _ h1 h2,← elast]
    have hsx := up_six leaf path hl n (a - cutL s) (s - cutL s)
    have IH := fun (W : World) (hb : Below w.heap.size w W) => ih (a - cutL s) (s - cutL s) W A0 c0 (some ad) c3 (by omega) (by omega) (by omega) (by omega) (Kd.C_below HC.out hb) HL.out (by have := Kd.C_below HCT.out hb;rwa [List.take_take,Nat.min_eq_left (by omega),List.length_take,Nat.min_eq_left (by omega)] at this) (by omega)
    generalize upL leaf path n (a - cutL s) (s - cutL s) = res at IH hsx
    obtain ⟨r1,r2⟩ := res
    dsimp only at IH hsx ⊢
    have HN := qq.mk (implNode_eq last r1 hlast hsx)
    have hlen := node_len last r1
    have HI := qq.mk IH
    have HLA := qq.mk hC1
    have EL := qq.mk elast
    clear IH hC1 elast hsx hlast ih
    obtain ⟨q,eq⟩ : ∃ q,q = cutL s := ⟨_,rfl⟩
    rw [← eq] at E1 HI h2 k0 k1
    clear eq
    obtain ⟨nd_,end_⟩ : ∃ x,x = nodeL last r1 := ⟨_,rfl⟩
    rw [← end_] at HN hlen ⊢
    have HNL := qq.mk hlen
    have END := qq.mk end_
    clear hlen end_
    have hw2 : wrap64 (a - q) = a - q := w64 (by omega) (by omega)
    have hw3 : wrap64 (s - q) = s - q := w64 (by omega) (by omega)
    cases r2 with
    | true =>
     have qe := fun (W : World) (ad' : Addr) (c' : Nat) => Lib.run_eql_slice_nil (P := Try.prog) W 22 5 (some ad') r1.length c' 0 0 Try.underlying22
     go_enter Try.func93,Try.ntmps93
     go_wp2
     go_region_held3 (fun w' => w'.cell? (ad.add n) = some (.slice A1 last.length c1)) (go_keep) (first | (go_at_call 121;refine (qzj.calls 300 s q _ E1.out).mono ?_;rintro e w' ⟨rfl,⟨⟨nd,rfl⟩⟩⟩))
     go_wp2_with (first | (go_at_call 93;refine (HI.out _ (by repeat (first | exact Below.refl _ _ | apply qz | apply below_drew))).mono ?_;rintro e w1 hpost;obtain ⟨AR,cR,rfl,hR,hCR⟩ := hpost.yes rfl;have hBR0 := hpost.below;clear hpost;replace hR := qq.mk hR;replace hCR := qq.mk hCR;have hBR : qq (Below w.heap.size w w1) := ⟨zv (by repeat (first | exact Below.refl _ _ | apply qz | apply below_drew)) hBR0⟩;clear hBR0) | (go_at_call 122;refine (qzq.calls (fun _ => True) A1 c1 last (fun _ => True) (some AR) cR r1 nd_ _ (V_of_C (by repeat (first | exact Kd.C_below HLA.out hBR.out | apply Kd.C_drewN | apply Kd.C_drew)) hl1) (V_of_C (by repeat (first | exact hCR.out | apply Kd.C_drewN | apply Kd.C_drew)) hR.out) HN.out).mono ?_;rintro e w2 ⟨v2,rfl,hR2,hB2⟩;obtain ⟨A2,c2,rfl⟩ := Kd.R_slice hR2;replace hR2 := qq.mk hR2;replace hB2 : qq (Below w.heap.size w w2) := ⟨zv (by repeat (first | exact hBR.out | apply qz | apply below_drew)) hB2⟩))
     go_ret
     obtain ⟨A',c',he,hc',hC'⟩ := Kd.R_reads hR2.out
     injection he with i1 i2 i3
     subst i1 i3
     obtain ⟨ad2,rfl,_⟩ := hC'.2.2 (by rw [HNL.out];omega)
     exact ⟨fun _ => ⟨ad2,_,rfl,hc',hC'⟩,fun h => Bool.noConfusion h,by repeat (first | exact hB2.out | apply qz | apply below_drew)⟩
    | false =>
     have qe := fun (W : World) => Lib.run_eql_slice_nil (P := Try.prog) W 22 5 none 0 0 0 0 Try.underlying22
     go_enter Try.func93,Try.ntmps93
     go_wp2
     go_region_held3 (fun w' => w'.cell? (ad.add n) = some (.slice A1 last.length c1)) (go_keep) (first | (go_at_call 121;refine (qzj.calls 300 s q _ E1.out).mono ?_;rintro e w' ⟨rfl,⟨⟨nd,rfl⟩⟩⟩))
     go_wp2_with (first | (go_at_call 93;refine (HI.out _ (by repeat (first | exact Below.refl _ _ | apply qz | apply below_drew))).mono ?_;rintro e w1 hpost;obtain rfl := hpost.no rfl;have hBR0 := hpost.below;clear hpost;have hBR : qq (Below w.heap.size w w1) := ⟨zv (by repeat (first | exact Below.refl _ _ | apply qz | apply below_drew)) hBR0⟩;clear hBR0))
     go_ret
     exact ⟨fun h => Bool.noConfusion h,fun _ => rfl,by repeat (first | exact hBR.out | apply qz | apply below_drew)⟩
end Go.Proofs.Ytipdkendfcopiaa.Pr
namespace Go.Proofs.Ytipdkendfcopiaa.Pr
open Go.RowKit Go.Proofs.YtipdkendfcopiaaW.PrintWords Go.Proofs.YtipdkendfcopiaaW.PrintLast Go.Proofs.YtipdkendfcopiaaW.PrintMore
set_option linter.unusedVariables false
theorem not16_calls (A : Option Addr) (n c : Nat) (w : World) :
  Calls Try.prog 124 #[.slice A n c] w fun e w' => e = .returned (.bool (decide ((n : Int) ≠ 16))) ∧ Drawn0 w w' := by
 go_enter Try.func124,Try.ntmps124
 go_wp2
 go_ret
 refine ⟨?_,⟨⟨0,rfl⟩⟩⟩
 by_cases h : (n : Int) = 16 <;> simp [h]
def bad16 (l : List (List Int)) : Bool := l.any fun b => b.length != 16
theorem bad16_take {l : List (List Int)} {k : Nat} (hk : k < l.length) : bad16 (l.take (k + 1)) = (bad16 (l.take k) || ((rd_L2 l k).length != 16)) := by
 unfold bad16
 rw [List.take_succ_eq_append_getElem hk,List.any_append]
 simp [rd_L2,List.getD_eq_getElem?_getD,List.getElem?_eq_getElem hk]
set_option maxHeartbeats 1000000 in
set_option maxRecDepth 100000 in
theorem index16_calls (A0 : Option Addr) (c0 : Nat) (l0 : List (List Int)) (w : World) (hr0 : Kd.C (Kd.slice 5 (Kd.int .u8)) w A0 l0.length l0) (hc0 : l0.length ≤ c0) :
  Calls Try.prog 138 #[.slice A0 l0.length c0,.func (.func 124) #[] #[]] w fun e w' => ∃ i : Int,e = .returned (.int .i64 i) ∧ decide (0 ≤ i) = bad16 l0 ∧ Drawn0 w w' := by
 have hmax := Kd.C_max hr0
 have HR0 := qq.mk hr0
 have HM := qq.mk hmax
 clear hr0 hc0 hmax
 have eg : Enters Try.prog 124 := enters_of Try.func124 (by kernel_rfl) rfl
 go_enter Try.func138,Try.ntmps138
 go_wp2
 go_loopw [5,8] (fun v5 i W => ∃ k : Nat,k ≤ l0.length ∧ i = .int .i64 k ∧ qq (bad16 (l0.take k) = false ∧ Drawn0 w W)) (fun _ i _ => l0.length - (intOf i).toNat)
 case atStart => exact ⟨0,by omega,rfl,⟨rfl,Drawn0.refl _⟩⟩
 case round =>
  obtain ⟨k,hk,rfl,HW⟩ := hrel
  have hmax := HM.out
  by_cases hlt : k < l0.length
  ·obtain ⟨ad,A1,c1,rfl,hcell,hl1,hC1⟩ := at_L2 HR0.out k (by omega) (by omega)
   rw [Int.toNat_natCast] at hcell
   have hcell2 : wr.cell? (ad.add k) = some (.slice A1 (rd_L2 l0 k).length c1) := by
    obtain ⟨⟨nd,e⟩⟩ := HW.out.2
    rw [e]
    exact hcell
   clear hcell hC1
   obtain ⟨n,en⟩ : ∃ n,n = (rd_L2 l0 k).length := ⟨_,rfl⟩
   rw [← en] at hcell2
   have hstep := bad16_take hlt
   rw [HW.out.1,Bool.false_or,← en] at hstep
   clear en
   by_cases h16 : n = 16
   ·have hd : decide ((n : Int) ≠ 16) = false := decide_eq_false (by omega)
    have HN : qq (bad16 (l0.take (k + 1)) = false) := ⟨by rw [hstep,h16];rfl⟩
    clear hstep hl1 h16
    have hcall : ∀ W : World,Calls Try.prog 124 #[.slice A1 n c1] W fun e w' => e = .returned (.bool false) ∧ ∃ q,w' = W.drewN q := fun W => (not16_calls A1 n c1 W).mono fun e w' h => ⟨by rw [h.1,hd],h.2.1⟩
    clear hd
    go_wp2_with (go_at_call 124;refine (hcall _).mono ?_;rintro e w' ⟨rfl,nd,rfl⟩)
    clear hcall
    go_roundw
    case rel => exact ⟨k + 1,by omega,by go_num,⟨HN.out,by repeat (first | exact HW.out.2 | apply Drawn0.step)⟩⟩
    case measure => simp [intOf];omega
   ·have hd : decide ((n : Int) ≠ 16) = true := decide_eq_true (by omega)
    have hb : bad16 l0 = true := by
     have h1 : bad16 (l0.take (k + 1)) = true := by rw [hstep];simpa using h16
     unfold bad16 at h1 ⊢
     rw [List.any_eq_true] at h1 ⊢
     obtain ⟨x,hx,hx2⟩ := h1
     exact ⟨x,List.mem_of_mem_take hx,hx2⟩
    have HN := qq.mk hb
    clear hstep hl1 hb
    have hcall : ∀ W : World,Calls Try.prog 124 #[.slice A1 n c1] W fun e w' => e = .returned (.bool true) ∧ ∃ q,w' = W.drewN q := fun W => (not16_calls A1 n c1 W).mono fun e w' h => ⟨by rw [h.1,hd],h.2.1⟩
    clear hd
    go_wp2_with (go_at_call 124;refine (hcall _).mono ?_;rintro e w' ⟨rfl,nd,rfl⟩)
    go_ret
    exact ⟨k,rfl,by rw [HN.out];exact decide_eq_true (by omega),by repeat (first | exact HW.out.2 | apply Drawn0.step)⟩
  ·obtain rfl : k = l0.length := by omega
   rw [List.take_length] at HW
   go_wp2
   go_ret
   exact ⟨-1,rfl,by rw [HW.out.1];rfl,HW.out.2⟩
theorem contains16_calls (A0 : Option Addr) (c0 : Nat) (l0 : List (List Int)) (w : World) (hr0 : Kd.C (Kd.slice 5 (Kd.int .u8)) w A0 l0.length l0) (hc0 : l0.length ≤ c0) :
  Calls Try.prog 123 #[.slice A0 l0.length c0,.func (.func 124) #[] #[]] w fun e w' => e = .returned (.bool (bad16 l0)) ∧ Drawn0 w w' := by
 go_enter Try.func123,Try.ntmps123
 go_wp2_with (go_at_call 138;refine (index16_calls A0 c0 l0 _ hr0 hc0).mono ?_;rintro e w' ⟨i,rfl,hi,⟨⟨nd,rfl⟩⟩⟩)
 go_ret
 exact ⟨by simp only [← hi];rfl,⟨⟨_,rfl⟩⟩⟩
def qjq.f (l0 : List (List Int)) : Option Bool := some (!bad16 l0)
theorem qjq.calls (A0 : Option Addr) (c0 : Nat) (l0 : List (List Int)) (r : Bool) (w : World) (hr0 : Kd.C (Kd.slice 5 (Kd.int .u8)) w A0 l0.length l0) (hc0 : l0.length ≤ c0) (h : qjq.f l0 = some r) :
  Calls Try.prog 92 #[.slice A0 l0.length c0] w fun e w' => e = .returned (.bool r) ∧ Drawn0 w w' := by
 obtain rfl := Option.some.inj h
 go_enter Try.func92,Try.ntmps92
 go_wp2_with (go_at_call 123;refine (contains16_calls A0 c0 l0 _ hr0 hc0).mono ?_;rintro e w' ⟨rfl,⟨⟨nd,rfl⟩⟩⟩)
 go_ret
 exact ⟨rfl,⟨⟨_,rfl⟩⟩⟩
end Go.Proofs.Ytipdkendfcopiaa.Pr
namespace Go.Proofs.Ytipdkendfcopiaa.Pr
open Go.RowKit Go.Proofs.YtipdkendfcopiaaW.PrintWords Go.Proofs.YtipdkendfcopiaaW.PrintLast Go.Proofs.YtipdkendfcopiaaW.PrintMore
attribute [local go_sem] max2_int min2_int max_two min_two max_three min_three max_four min_four
set_option linter.unusedVariables false
set_option linter.unusedSimpArgs false
def qww.l0 : Nat → List (List Int) → Int → Int → Option (Bool)
 | 0,_,_,_ => none
 | k + 1,x5,x6,x7 => if x7 < x6 then (if 0 ≤ x7 then (if x7 < (x5.length : Int) then (if ((rd_L2 x5 x7).length : Int) = 16 then (qww.l0 k x5 x6 (wrap64 (x7 + 1))) else (some false)) else (none)) else (none)) else (some true)
def qww.f (k : Nat) (l0 : List (List Int)) : Option (Bool) := qww.l0 k l0 (l0.length : Int) 0
set_option maxHeartbeats 8000000 in
set_option maxRecDepth 100000 in
theorem qww.calls (k : Nat) (A0 : Option Addr) (c0 : Nat) (l0 : List (List Int)) (r : Bool) (w : World) (hr0 : Kd.C (Kd.slice 5 (Kd.int .u8)) w A0 l0.length l0) (hc0 : l0.length ≤ c0) (h : qww.f k l0 = some r) :
  Calls Try.prog 90 #[.slice A0 l0.length c0] w fun e w' => e = .returned (.bool r) ∧ Drawn0 w w' := by
 have HR0 := qq.mk hr0
 have HC0 := qq.mk hc0
 clear hr0 hc0
 have H : (qww.l0 k l0 (l0.length : Int) 0) = some r := h
 clear h
 have H' := qq.mk H
 clear H
 go_enter Try.func90,Try.ntmps90
 go_wp2
 go_loopg [7] k (fun kq v7 w' => ∃ (x7_1 : Int),v7 = .int .i64 x7_1 ∧ qq (qww.l0 kq l0 (l0.length : Int) x7_1 = some r) ∧ qq (kq ≤ k) ∧ Drawn0 w w')
 case atStart => exact ⟨(0),(by first | rfl | (simp;done) | (simp [*];done)),H',⟨Nat.le_refl _⟩,by repeat (first | exact Drawn0.refl _ | apply Drawn0.step)⟩
 case round =>
  clear H'
  obtain ⟨x7_1,rfl,HA,HK1,⟨m1,rfl⟩⟩ := hrel
  cases gk with
  | zero => exact absurd HA.out (by simp [qww.l0])
  | succ k1 =>
   have H := HA.out
   clear HA
   simp only [qww.l0] at H
   by_cases c2 : x7_1 < (l0.length : Int)
   ·rw [if_pos c2] at H
    have c2b0 : decide (x7_1 < (l0.length : Int)) = true := decide_eq_true c2
    clear c2
    by_cases c3 : 0 ≤ x7_1
    ·rw [if_pos c3] at H
     have c3b0 : decide (0 ≤ x7_1) = true := decide_eq_true c3
     clear c3
     by_cases c4 : x7_1 < (l0.length : Int)
     ·rw [if_pos c4] at H
      have c4b0 : decide (x7_1 < (l0.length : Int)) = true := decide_eq_true c4
      clear c4
      by_cases c5 : ((rd_L2 l0 x7_1).length : Int) = 16
      ·rw [if_pos c5] at H
       have c5b0 : (((rd_L2 l0 x7_1).length : Int) == 16) = true := beq_iff_eq.mpr c5
       have c5b1 : (((rd_L2 l0 x7_1).length : Int) != 16) = false := bne_eq_false_iff_eq.mpr c5
       clear c5
       have H' := qq.mk H
       clear H
       have p101 : 0 ≤ (x7_1 : Int) := of_decide_eq_true (by assumption)
       have q101 : x7_1 < (l0.length : Int) := of_decide_eq_true (by assumption)
       obtain ⟨ad101,A101_0,c101_0,e101,hx101_0,hl101_0,hi101_0⟩ := at_L2 HR0.out x7_1 p101 q101
       cases e101
       have HR101_0 := qq.mk hi101_0
       have HC101_0 := qq.mk hl101_0
       clear hi101_0 hl101_0
       replace p101 := eq_true p101
       replace q101 := eq_true q101
       go_wp2
       go_roundg k1
       case measure => have := HK1.out;omega
       case rel => exact ⟨(wrap64 (x7_1 + 1)),(by first | rfl | (simp;done) | (simp [*];done)),H',⟨by have := HK1.out;omega⟩,by repeat (first | exact Drawn0.refl _ | apply Drawn0.step)⟩
      ·rw [if_neg c5] at H
       have c5b0 : (((rd_L2 l0 x7_1).length : Int) == 16) = false := beq_eq_false_iff_ne.mpr c5
       have c5b1 : (((rd_L2 l0 x7_1).length : Int) != 16) = true := bne_iff_ne.mpr c5
       obtain rfl := Option.some.inj H
       have p101 : 0 ≤ (x7_1 : Int) := of_decide_eq_true (by assumption)
       have q101 : x7_1 < (l0.length : Int) := of_decide_eq_true (by assumption)
       obtain ⟨ad101,A101_0,c101_0,e101,hx101_0,hl101_0,hi101_0⟩ := at_L2 HR0.out x7_1 p101 q101
       cases e101
       have HR101_0 := qq.mk hi101_0
       have HC101_0 := qq.mk hl101_0
       clear hi101_0 hl101_0
       replace p101 := eq_true p101
       replace q101 := eq_true q101
       go_wp2
       go_ret
       exact ⟨by first | rfl | (simp;done) | (simp [*];done),by repeat (first | exact Drawn0.refl _ | apply Drawn0.step)⟩
     ·rw [if_neg c4] at H
      exact absurd H (by simp)
    ·rw [if_neg c3] at H
     exact absurd H (by simp)
   ·rw [if_neg c2] at H
    have c2b0 : decide (x7_1 < (l0.length : Int)) = false := decide_eq_false c2
    clear c2
    obtain rfl := Option.some.inj H
    go_wp2
    go_ret
    exact ⟨by first | rfl | (simp;done) | (simp [*];done),by repeat (first | exact Drawn0.refl _ | apply Drawn0.step)⟩
end Go.Proofs.Ytipdkendfcopiaa.Pr
namespace Go.Proofs.Ytipdkendfcopiaa.Pr
open Go.RowKit Go.Proofs.Ytipdkendfcopiaa.Read Go.Proofs.YtipdkendfcopiaaW.PrintWords Go.Proofs.YtipdkendfcopiaaW.PrintLast Go.Proofs.YtipdkendfcopiaaW.PrintMore
set_option linter.unusedVariables false
theorem sixteen_l0 (l : List (List Int)) (hl : l.length ≤ 9223372036854775807) (d : Nat) : ∀ (k i : Nat),i + d = l.length → d < k → bad16 (l.take i) = false → qww.l0 k l (l.length : Int) i = some (!bad16 l) := by
 induction d with
 | zero =>
  intro k i hi hk hb
  obtain ⟨k,rfl⟩ : ∃ m,k = m + 1 := ⟨k - 1,by omega⟩
  rw [List.take_of_length_le (by omega)] at hb
  simp only [qww.l0,if_neg (show ¬ ((i : Int) < l.length) by omega),hb,Bool.not_false]
 | succ d ih =>
  intro k i hi hk hb
  obtain ⟨k,rfl⟩ : ∃ m,k = m + 1 := ⟨k - 1,by omega⟩
  have e2 : wrap64 ((i : Int) + 1) = ((i + 1 : Nat) : Int) := by rw [w64 (by omega) (by omega)];rfl
  have hs := bad16_take (l := l) (k := i) (by omega)
  rw [hb,Bool.false_or] at hs
  simp only [qww.l0,if_pos (show ((i : Int) < l.length) by omega),if_pos (show (0 : Int) ≤ i by omega),e2]
  by_cases h16 : ((rd_L2 l i).length : Int) = 16
  ·rw [if_pos h16]
   refine ih k (i + 1) (by omega) (by omega) ?_
   rw [hs]
   simp
   omega
  ·rw [if_neg h16]
   have hb2 : bad16 l = true := by
    have h1 : bad16 (l.take (i + 1)) = true := by
     rw [hs]
     simp
     omega
    unfold bad16 at h1 ⊢
    rw [List.any_eq_true] at h1 ⊢
    obtain ⟨x,hx,hx2⟩ := h1
    exact ⟨x,List.mem_of_mem_take hx,hx2⟩
   rw [hb2]
   rfl
theorem sixteen_eq (l : List (List Int)) (hl : l.length ≤ 9223372036854775807) : qww.f (l.length + 1) l = some (!bad16 l) :=
 sixteen_l0 l hl l.length (l.length + 1) 0 (by omega) (by omega) rfl
theorem one_C {w' : World} {A0 : Option Addr} {c0 g : Nat} {l0 : List Int} (h : Kd.C (Kd.int .u8) w' A0 l0.length l0) (hc : l0.length ≤ c0) (hcell : w'.cell? ⟨g,0,none⟩ = some (.slice A0 l0.length c0)) :
  Kd.C (Kd.slice 5 (Kd.int .u8)) w' (some ⟨g,0,none⟩) [l0].length [l0] := by
 refine ⟨rfl,by simp,fun _ => ⟨_,rfl,fun i p hp => ?_⟩⟩
 obtain rfl : i = 0 := by
  rcases i with _ | i
  ·rfl
  ·simp at hp
 obtain rfl : l0 = p := by simpa using hp
 exact ⟨[.slice A0 l0.length c0],rfl,⟨A0,c0,rfl,hc,h⟩,fun k u hu => by
  rcases k with _ | k
  ·have : u = .slice A0 l0.length c0 := by simpa using hu.symm
   subst this
   simpa [Addr.add] using hcell
  ·simp at hu⟩
theorem sixteen_one {A0 : Option Addr} {c0 : Nat} {l0 : List Int} {w : World} {b : Bool} (h : Kd.C (Kd.int .u8) w A0 l0.length l0) (hc : l0.length ≤ c0) (hs : qww.f ([l0].length + 1) [l0] = some b) :
  Calls Try.prog 90 #[.slice (some ⟨w.heap.size,0,none⟩) 1 1] (w.alloc (.cells #[.slice A0 l0.length c0] 22)) fun e w' => e = .returned (.bool b) ∧ ∃ nd,w' = (w.alloc (.cells #[.slice A0 l0.length c0] 22)).drewN nd := by
 have hcell : (w.alloc (.cells #[.slice A0 l0.length c0] 22)).cell? ⟨w.heap.size,0,none⟩ = some (.slice A0 l0.length c0) := (qw (blk_new w _) 0).trans rfl
 exact (qww.calls ([l0].length + 1) (some ⟨w.heap.size,0,none⟩) 1 [l0] b _ (one_C (Kd.C_alloc h _) hc hcell) (by simp) hs).mono fun e w' hp => ⟨hp.1,hp.2.1⟩
def pathOk (leaf : List Int) (a s : Int) (path : List (List Int)) : Prop := 1 ≤ s ∧ s ≤ 200 ∧ 0 ≤ a ∧ a < s ∧ leaf.length = 16 ∧ bad16 path = false
instance (leaf : List Int) (a s : Int) (path : List (List Int)) : Decidable (pathOk leaf a s path) := by unfold pathOk;infer_instance
def pathL (leaf : List Int) (a s : Int) (path : List (List Int)) (root : List Int) : Bool := if pathOk leaf a s path then (upL leaf path path.length a s).2 && ((strOfNums (upL leaf path path.length a s).1).toList == (strOfNums root).toList) else false
def pathBytes (leaf : List Int) (path : List (List Int)) : Prop := isBytes leaf ∧ ∀ b ∈ path,isBytes b
instance (leaf : List Int) (path : List (List Int)) : Decidable (pathBytes leaf path) := by unfold pathBytes;infer_instance
theorem ok_six {leaf : List Int} {a s : Int} {path : List (List Int)} (hb : pathBytes leaf path) (h : pathOk leaf a s path) : six leaf ∧ ∀ b ∈ path,six b := by
 refine ⟨⟨hb.1,by have := h.2.2.2.2.1;omega⟩,fun b hbm => ⟨hb.2 b hbm,?_⟩⟩
 have h2 := h.2.2.2.2.2
 unfold bad16 at h2
 rw [List.any_eq_false] at h2
 have := h2 b hbm
 simp at this
 omega
theorem sixteen_two {A0 : Option Addr} {c0 n0 : Nat} {A3 : Option Addr} {c3 : Nat} {l3 : List (List Int)} {w : World} {b : Bool} {nd : Nat} (h : Kd.C (Kd.slice 5 (Kd.int .u8)) w A3 l3.length l3) (hc : l3.length ≤ c3) (hs : qww.f (l3.length + 1) l3 = some b) :
  Calls Try.prog 90 #[.slice A3 l3.length c3] ((w.alloc (.cells #[.slice A0 n0 c0] 22)).drewN nd) fun e w' => e = .returned (.bool b) ∧ ∃ nd2,w' = ((w.alloc (.cells #[.slice A0 n0 c0] 22)).drewN nd).drewN nd2 :=
 (qww.calls (l3.length + 1) A3 c3 l3 b _ (Kd.C_drewN (Kd.C_alloc h _) _) hc hs).mono fun e w' hp => ⟨hp.1,hp.2.1⟩
set_option maxHeartbeats 2000000 in
set_option maxRecDepth 100000 in
theorem qjv.calls_e0 (A0 : Option Addr) (c0 : Nat) (l0 : List Int) (a1 : Int) (a2 : Int) (A3 : Option Addr) (c3 : Nat) (l3 : List (List Int)) (A4 : Option Addr) (c4 : Nat) (l4 : List Int) (w : World) (hr0 : Kd.C (Kd.int .u8) w A0 l0.length l0) (hc0 : l0.length ≤ c0) (hr3 : Kd.C (Kd.slice 5 (Kd.int .u8)) w A3 l3.length l3) (hc3 : l3.length ≤ c3) (hr4 : Kd.C (Kd.int .u8) w A4 l4.length l4) (hc4 : l4.length ≤ c4)  (g0 : a2 < 1) :
  Calls Try.prog 47 #[.slice A0 l0.length c0,.int .i64 a1,.int .i64 a2,.slice A3 l3.length c3,.slice A4 l4.length c4] w fun e w' => e = .returned (.bool false) ∧ Below w.heap.size w w' := by
 have HR0 := qq.mk hr0
 have HC0 := qq.mk hc0
 have HR3 := qq.mk hr3
 have HC3 := qq.mk hc3
 have HR4 := qq.mk hr4
 have HC4 := qq.mk hc4
 have HS3 := qq.mk (sixteen_eq l3 (Kd.C_max hr3))
 have HS0 := qq.mk (sixteen_eq [l0] (by simp))
 have hone : bad16 [l0] = (l0.length != 16) := by simp [bad16]
 clear hr0 hc0 hr3 hc3 hr4 hc4
 have q0 : decide (a2 < 1) = true := decide_eq_true (by omega)
 clear hone HS0 HS3 g0
 go_enter Try.func47,Try.ntmps47
 go_wp2_with (first | (go_at_call 90;with_reducible refine (sixteen_one HR0.out HC0.out HS0.out).mono ?_;rintro e w' ⟨rfl,nd,rfl⟩))
 go_ret
 exact ⟨rfl,by repeat (first | exact Below.refl _ _ | apply qz | apply below_drew | apply qj)⟩
set_option maxHeartbeats 2000000 in
set_option maxRecDepth 100000 in
theorem qjv.calls_e1 (A0 : Option Addr) (c0 : Nat) (l0 : List Int) (a1 : Int) (a2 : Int) (A3 : Option Addr) (c3 : Nat) (l3 : List (List Int)) (A4 : Option Addr) (c4 : Nat) (l4 : List Int) (w : World) (hr0 : Kd.C (Kd.int .u8) w A0 l0.length l0) (hc0 : l0.length ≤ c0) (hr3 : Kd.C (Kd.slice 5 (Kd.int .u8)) w A3 l3.length l3) (hc3 : l3.length ≤ c3) (hr4 : Kd.C (Kd.int .u8) w A4 l4.length l4) (hc4 : l4.length ≤ c4) (g0 : ¬ a2 < 1) (g1 : 200 < a2) :
  Calls Try.prog 47 #[.slice A0 l0.length c0,.int .i64 a1,.int .i64 a2,.slice A3 l3.length c3,.slice A4 l4.length c4] w fun e w' => e = .returned (.bool false) ∧ Below w.heap.size w w' := by
 have HR0 := qq.mk hr0
 have HC0 := qq.mk hc0
 have HR3 := qq.mk hr3
 have HC3 := qq.mk hc3
 have HR4 := qq.mk hr4
 have HC4 := qq.mk hc4
 have HS3 := qq.mk (sixteen_eq l3 (Kd.C_max hr3))
 have HS0 := qq.mk (sixteen_eq [l0] (by simp))
 have hone : bad16 [l0] = (l0.length != 16) := by simp [bad16]
 clear hr0 hc0 hr3 hc3 hr4 hc4
 have q0 : decide (a2 < 1) = false := decide_eq_false (by omega)
 have q1 : decide (200 < a2) = true := decide_eq_true (by omega)
 clear hone HS0 HS3 g0 g1
 go_enter Try.func47,Try.ntmps47
 go_wp2_with (first | (go_at_call 90;with_reducible refine (sixteen_one HR0.out HC0.out HS0.out).mono ?_;rintro e w' ⟨rfl,nd,rfl⟩))
 go_ret
 exact ⟨rfl,by repeat (first | exact Below.refl _ _ | apply qz | apply below_drew | apply qj)⟩
set_option maxHeartbeats 2000000 in
set_option maxRecDepth 100000 in
theorem qjv.calls_e2 (A0 : Option Addr) (c0 : Nat) (l0 : List Int) (a1 : Int) (a2 : Int) (A3 : Option Addr) (c3 : Nat) (l3 : List (List Int)) (A4 : Option Addr) (c4 : Nat) (l4 : List Int) (w : World) (hr0 : Kd.C (Kd.int .u8) w A0 l0.length l0) (hc0 : l0.length ≤ c0) (hr3 : Kd.C (Kd.slice 5 (Kd.int .u8)) w A3 l3.length l3) (hc3 : l3.length ≤ c3) (hr4 : Kd.C (Kd.int .u8) w A4 l4.length l4) (hc4 : l4.length ≤ c4) (g0 : ¬ a2 < 1) (g1 : ¬ 200 < a2) (g2 : a1 < 0) :
  Calls Try.prog 47 #[.slice A0 l0.length c0,.int .i64 a1,.int .i64 a2,.slice A3 l3.length c3,.slice A4 l4.length c4] w fun e w' => e = .returned (.bool false) ∧ Below w.heap.size w w' := by
 have HR0 := qq.mk hr0
 have HC0 := qq.mk hc0
 have HR3 := qq.mk hr3
 have HC3 := qq.mk hc3
 have HR4 := qq.mk hr4
 have HC4 := qq.mk hc4
 have HS3 := qq.mk (sixteen_eq l3 (Kd.C_max hr3))
 have HS0 := qq.mk (sixteen_eq [l0] (by simp))
 have hone : bad16 [l0] = (l0.length != 16) := by simp [bad16]
 clear hr0 hc0 hr3 hc3 hr4 hc4
 have q0 : decide (a2 < 1) = false := decide_eq_false (by omega)
 have q1 : decide (200 < a2) = false := decide_eq_false (by omega)
 have q2 : decide (a1 < 0) = true := decide_eq_true (by omega)
 clear hone HS0 HS3 g0 g1 g2
 go_enter Try.func47,Try.ntmps47
 go_wp2_with (first | (go_at_call 90;with_reducible refine (sixteen_one HR0.out HC0.out HS0.out).mono ?_;rintro e w' ⟨rfl,nd,rfl⟩))
 go_ret
 exact ⟨rfl,by repeat (first | exact Below.refl _ _ | apply qz | apply below_drew | apply qj)⟩
set_option maxHeartbeats 2000000 in
set_option maxRecDepth 100000 in
theorem qjv.calls_e3 (A0 : Option Addr) (c0 : Nat) (l0 : List Int) (a1 : Int) (a2 : Int) (A3 : Option Addr) (c3 : Nat) (l3 : List (List Int)) (A4 : Option Addr) (c4 : Nat) (l4 : List Int) (w : World) (hr0 : Kd.C (Kd.int .u8) w A0 l0.length l0) (hc0 : l0.length ≤ c0) (hr3 : Kd.C (Kd.slice 5 (Kd.int .u8)) w A3 l3.length l3) (hc3 : l3.length ≤ c3) (hr4 : Kd.C (Kd.int .u8) w A4 l4.length l4) (hc4 : l4.length ≤ c4) (g0 : ¬ a2 < 1) (g1 : ¬ 200 < a2) (g2 : ¬ a1 < 0) (g3 : a2 ≤ a1) :
  Calls Try.prog 47 #[.slice A0 l0.length c0,.int .i64 a1,.int .i64 a2,.slice A3 l3.length c3,.slice A4 l4.length c4] w fun e w' => e = .returned (.bool false) ∧ Below w.heap.size w w' := by
 have HR0 := qq.mk hr0
 have HC0 := qq.mk hc0
 have HR3 := qq.mk hr3
 have HC3 := qq.mk hc3
 have HR4 := qq.mk hr4
 have HC4 := qq.mk hc4
 have HS3 := qq.mk (sixteen_eq l3 (Kd.C_max hr3))
 have HS0 := qq.mk (sixteen_eq [l0] (by simp))
 have hone : bad16 [l0] = (l0.length != 16) := by simp [bad16]
 clear hr0 hc0 hr3 hc3 hr4 hc4
 have q0 : decide (a2 < 1) = false := decide_eq_false (by omega)
 have q1 : decide (200 < a2) = false := decide_eq_false (by omega)
 have q2 : decide (a1 < 0) = false := decide_eq_false (by omega)
 have q3 : decide (a2 ≤ a1) = true := decide_eq_true (by omega)
 clear hone HS0 HS3 g0 g1 g2 g3
 go_enter Try.func47,Try.ntmps47
 go_wp2_with (first | (go_at_call 90;with_reducible refine (sixteen_one HR0.out HC0.out HS0.out).mono ?_;rintro e w' ⟨rfl,nd,rfl⟩))
 go_ret
 exact ⟨rfl,by repeat (first | exact Below.refl _ _ | apply qz | apply below_drew | apply qj)⟩
set_option maxHeartbeats 2000000 in
set_option maxRecDepth 100000 in
theorem qjv.calls_leaf (A0 : Option Addr) (c0 : Nat) (l0 : List Int) (a1 : Int) (a2 : Int) (A3 : Option Addr) (c3 : Nat) (l3 : List (List Int)) (A4 : Option Addr) (c4 : Nat) (l4 : List Int) (w : World) (hr0 : Kd.C (Kd.int .u8) w A0 l0.length l0) (hc0 : l0.length ≤ c0) (hr3 : Kd.C (Kd.slice 5 (Kd.int .u8)) w A3 l3.length l3) (hc3 : l3.length ≤ c3) (hr4 : Kd.C (Kd.int .u8) w A4 l4.length l4) (hc4 : l4.length ≤ c4) (g0 : ¬ a2 < 1) (g1 : ¬ 200 < a2) (g2 : ¬ a1 < 0) (g3 : ¬ a2 ≤ a1) (g5 : ¬ l0.length = 16) :
  Calls Try.prog 47 #[.slice A0 l0.length c0,.int .i64 a1,.int .i64 a2,.slice A3 l3.length c3,.slice A4 l4.length c4] w fun e w' => e = .returned (.bool false) ∧ Below w.heap.size w w' := by
 have HR0 := qq.mk hr0
 have HC0 := qq.mk hc0
 have HR3 := qq.mk hr3
 have HC3 := qq.mk hc3
 have HR4 := qq.mk hr4
 have HC4 := qq.mk hc4
 have HS3 := qq.mk (sixteen_eq l3 (Kd.C_max hr3))
 have HS0 := qq.mk (sixteen_eq [l0] (by simp))
 have hone : bad16 [l0] = (l0.length != 16) := by simp [bad16]
 clear hr0 hc0 hr3 hc3 hr4 hc4
 have q0 : decide (a2 < 1) = false := decide_eq_false (by omega)
 have q1 : decide (200 < a2) = false := decide_eq_false (by omega)
 have q2 : decide (a1 < 0) = false := decide_eq_false (by omega)
 have q3 : decide (a2 ≤ a1) = false := decide_eq_false (by omega)
 replace HS0 : qq (qww.f ([l0].length + 1) [l0] = some false) := ⟨by rw [HS0.out,hone];simp;omega⟩
 clear hone g0 g1 g2 g3 g5
 go_enter Try.func47,Try.ntmps47
 go_wp2_with (first | (go_at_call 90;with_reducible refine (sixteen_one HR0.out HC0.out HS0.out).mono ?_;rintro e w' ⟨rfl,nd,rfl⟩))
 go_ret
 exact ⟨rfl,by repeat (first | exact Below.refl _ _ | apply qz | apply below_drew | apply qj)⟩
set_option maxHeartbeats 2000000 in
set_option maxRecDepth 100000 in
theorem qjv.calls_bad (A0 : Option Addr) (c0 : Nat) (l0 : List Int) (a1 : Int) (a2 : Int) (A3 : Option Addr) (c3 : Nat) (l3 : List (List Int)) (A4 : Option Addr) (c4 : Nat) (l4 : List Int) (w : World) (hr0 : Kd.C (Kd.int .u8) w A0 l0.length l0) (hc0 : l0.length ≤ c0) (hr3 : Kd.C (Kd.slice 5 (Kd.int .u8)) w A3 l3.length l3) (hc3 : l3.length ≤ c3) (hr4 : Kd.C (Kd.int .u8) w A4 l4.length l4) (hc4 : l4.length ≤ c4) (g0 : ¬ a2 < 1) (g1 : ¬ 200 < a2) (g2 : ¬ a1 < 0) (g3 : ¬ a2 ≤ a1) (g5 : l0.length = 16) (g6 : bad16 l3 = true) :
  Calls Try.prog 47 #[.slice A0 l0.length c0,.int .i64 a1,.int .i64 a2,.slice A3 l3.length c3,.slice A4 l4.length c4] w fun e w' => e = .returned (.bool false) ∧ Below w.heap.size w w' := by
 have HR0 := qq.mk hr0
 have HC0 := qq.mk hc0
 have HR3 := qq.mk hr3
 have HC3 := qq.mk hc3
 have HR4 := qq.mk hr4
 have HC4 := qq.mk hc4
 have HS3 := qq.mk (sixteen_eq l3 (Kd.C_max hr3))
 have HS0 := qq.mk (sixteen_eq [l0] (by simp))
 have hone : bad16 [l0] = (l0.length != 16) := by simp [bad16]
 clear hr0 hc0 hr3 hc3 hr4 hc4
 have q0 : decide (a2 < 1) = false := decide_eq_false (by omega)
 have q1 : decide (200 < a2) = false := decide_eq_false (by omega)
 have q2 : decide (a1 < 0) = false := decide_eq_false (by omega)
 have q3 : decide (a2 ≤ a1) = false := decide_eq_false (by omega)
 replace HS0 : qq (qww.f ([l0].length + 1) [l0] = some true) := ⟨by rw [HS0.out,hone,g5];rfl⟩
 replace HS3 : qq (qww.f (l3.length + 1) l3 = some false) := ⟨by rw [HS3.out,g6];rfl⟩
 clear hone g0 g1 g2 g3 g5 g6
 go_enter Try.func47,Try.ntmps47
 go_wp2_with (first | (go_at_call 90;with_reducible refine (sixteen_one HR0.out HC0.out HS0.out).mono ?_;rintro e w' ⟨rfl,nd,rfl⟩) | (go_at_call 90;with_reducible refine (sixteen_two HR3.out HC3.out HS3.out).mono ?_;rintro e w' ⟨rfl,nd2,rfl⟩))
 go_ret
 exact ⟨rfl,by repeat (first | exact Below.refl _ _ | apply qz | apply below_drew | apply qj)⟩
set_option maxHeartbeats 2000000 in
set_option maxRecDepth 100000 in
theorem qjv.calls_good (A0 : Option Addr) (c0 : Nat) (l0 : List Int) (a1 : Int) (a2 : Int) (A3 : Option Addr) (c3 : Nat) (l3 : List (List Int)) (A4 : Option Addr) (c4 : Nat) (l4 : List Int) (w : World) (hr0 : Kd.C (Kd.int .u8) w A0 l0.length l0) (hc0 : l0.length ≤ c0) (hr3 : Kd.C (Kd.slice 5 (Kd.int .u8)) w A3 l3.length l3) (hc3 : l3.length ≤ c3) (hr4 : Kd.C (Kd.int .u8) w A4 l4.length l4) (hc4 : l4.length ≤ c4) (hb : pathBytes l0 l3) (hok : pathOk l0 a1 a2 l3) :
  Calls Try.prog 47 #[.slice A0 l0.length c0,.int .i64 a1,.int .i64 a2,.slice A3 l3.length c3,.slice A4 l4.length c4] w fun e w' => e = .returned (.bool (pathL l0 a1 a2 l3 l4)) ∧ Below w.heap.size w w' := by
 have HR0 := qq.mk hr0
 have HC0 := qq.mk hc0
 have HR3 := qq.mk hr3
 have HC3 := qq.mk hc3
 have HR4 := qq.mk hr4
 have HC4 := qq.mk hc4
 have HS3 := qq.mk (sixteen_eq l3 (Kd.C_max hr3))
 have HS0 := qq.mk (sixteen_eq [l0] (by simp))
 have hone : bad16 [l0] = (l0.length != 16) := by simp [bad16]
 clear hr0 hc0 hr3 hc3 hr4 hc4
 have hsx := ok_six hb hok
 obtain ⟨g1,g2,g3,g4,g5,g6⟩ := hok
 rw [show pathL l0 a1 a2 l3 l4 = ((upL l0 l3 l3.length a1 a2).2 && ((strOfNums (upL l0 l3 l3.length a1 a2).1).toList == (strOfNums l4).toList)) from if_pos ⟨g1,g2,g3,g4,g5,g6⟩]
 have HU := qq.mk (specUp_calls l0 l3 hsx.1 hsx.2 l3.length a1 a2)
 generalize upL l0 l3 l3.length a1 a2 = res at HU ⊢
 obtain ⟨r1,r2⟩ := res
 dsimp only at HU ⊢
 have q0 : decide (a2 < 1) = false := decide_eq_false (by omega)
 have q1 : decide (200 < a2) = false := decide_eq_false (by omega)
 have q2 : decide (a1 < 0) = false := decide_eq_false (by omega)
 have q3 : decide (a2 ≤ a1) = false := decide_eq_false (by omega)
 replace HS0 : qq (qww.f ([l0].length + 1) [l0] = some true) := ⟨by rw [HS0.out,hone,g5];rfl⟩
 replace HS3 : qq (qww.f (l3.length + 1) l3 = some true) := ⟨by rw [HS3.out,g6];rfl⟩
 have G := qq.mk (And.intro g1 (And.intro g2 (And.intro g3 g4)))
 clear hb hsx g1 g2 g3 g4 g5 g6 hone
 cases r2 with
 | true =>
  go_enter Try.func47,Try.ntmps47
  go_wp2_with (first | (go_at_call 90;with_reducible refine (sixteen_one HR0.out HC0.out HS0.out).mono ?_;rintro e w' ⟨rfl,nd,rfl⟩) | (go_at_call 90;with_reducible refine (sixteen_two HR3.out HC3.out HS3.out).mono ?_;rintro e w' ⟨rfl,nd2,rfl⟩) | (go_at_call 91;refine (HU.out _ A0 c0 A3 c3 (Nat.le_refl _) G.out.2.2.1 G.out.2.2.2 G.out.2.1 (by repeat (first | exact HR0.out | apply Kd.C_alloc | apply Kd.C_drewN | apply Kd.C_drew)) HC0.out (by rw [List.take_length];exact (by repeat (first | exact HR3.out | apply Kd.C_alloc | apply Kd.C_drewN | apply Kd.C_drew))) HC3.out).mono ?_;rintro e w1 ⟨AR,cR,rfl,hR,hCR,hBR⟩;have hcvA := Kd.C_string (P := Try.prog) (A := AR) (c := cR) Try.underlying22 Try.underlying5 Try.underlying9 hCR;have hcvB := Kd.C_string (P := Try.prog) (A := A4) (c := c4) Try.underlying22 Try.underlying5 Try.underlying9 (Kd.C_below HR4.out (zv (by repeat (first | exact Below.refl _ _ | apply qz | apply below_drew | apply qj)) hBR));replace hR := qq.mk hR;replace hCR := qq.mk hCR;have hB1 : qq (Below w.heap.size w w1) := ⟨zv (by repeat (first | exact Below.refl _ _ | apply qz | apply below_drew | apply qj)) hBR⟩;clear hBR))
  go_ret
  exact ⟨by first | rfl | (simp;done),hB1.out⟩
 | false =>
  go_enter Try.func47,Try.ntmps47
  go_wp2_with (first | (go_at_call 90;with_reducible refine (sixteen_one HR0.out HC0.out HS0.out).mono ?_;rintro e w' ⟨rfl,nd,rfl⟩) | (go_at_call 90;with_reducible refine (sixteen_two HR3.out HC3.out HS3.out).mono ?_;rintro e w' ⟨rfl,nd2,rfl⟩) | (go_at_call 91;refine (HU.out _ A0 c0 A3 c3 (Nat.le_refl _) G.out.2.2.1 G.out.2.2.2 G.out.2.1 (by repeat (first | exact HR0.out | apply Kd.C_alloc | apply Kd.C_drewN | apply Kd.C_drew)) HC0.out (by rw [List.take_length];exact (by repeat (first | exact HR3.out | apply Kd.C_alloc | apply Kd.C_drewN | apply Kd.C_drew))) HC3.out).mono ?_;rintro e w1 ⟨AR,cR,rfl,hR,hCR,hBR⟩;have hcvA := Kd.C_string (P := Try.prog) (A := AR) (c := cR) Try.underlying22 Try.underlying5 Try.underlying9 hCR;have hcvB := Kd.C_string (P := Try.prog) (A := A4) (c := c4) Try.underlying22 Try.underlying5 Try.underlying9 (Kd.C_below HR4.out (zv (by repeat (first | exact Below.refl _ _ | apply qz | apply below_drew | apply qj)) hBR));replace hR := qq.mk hR;replace hCR := qq.mk hCR;have hB1 : qq (Below w.heap.size w w1) := ⟨zv (by repeat (first | exact Below.refl _ _ | apply qz | apply below_drew | apply qj)) hBR⟩;clear hBR))
  go_ret
  exact ⟨by first | rfl | (simp;done),hB1.out⟩
end Go.Proofs.Ytipdkendfcopiaa.Pr
namespace Go.Proofs.Ytipdkendfcopiaa.Pr
open Go.RowKit Go.Proofs.YtipdkendfcopiaaW.PrintWords Go.Proofs.YtipdkendfcopiaaW.PrintLast Go.Proofs.YtipdkendfcopiaaW.PrintMore
attribute [local go_sem] max2_int min2_int max_two min_two max_three min_three max_four min_four
set_option linter.unusedVariables false
set_option linter.unusedSimpArgs false
def xz.f (l0 : List Int) (l1 : List Int) : Option (Bool) := some ((strOfNums l0).toList == (strOfNums l1).toList)
set_option maxHeartbeats 8000000 in
set_option maxRecDepth 100000 in
theorem xz.calls (A0 : Option Addr) (c0 : Nat) (l0 : List Int) (A1 : Option Addr) (c1 : Nat) (l1 : List Int) (r : Bool) (w : World) (hr0 : Kd.C (Kd.int .u8) w A0 l0.length l0) (hc0 : l0.length ≤ c0) (hr1 : Kd.C (Kd.int .u8) w A1 l1.length l1) (hc1 : l1.length ≤ c1) (h : xz.f l0 l1 = some r) :
  Calls Try.prog 94 #[.slice A0 l0.length c0,.slice A1 l1.length c1] w fun e w' => e = .returned (.bool r) ∧ Drawn0 w w' := by
 have HR0 := qq.mk hr0
 have HC0 := qq.mk hc0
 clear hr0 hc0
 have HR1 := qq.mk hr1
 have HC1 := qq.mk hc1
 clear hr1 hc1
 have H : (some ((strOfNums l0).toList == (strOfNums l1).toList)) = some r := h
 clear h
 obtain rfl := Option.some.inj H
 have hcv3 := Kd.C_string (P := Try.prog) (A := A0) (c := c0) Try.underlying22 Try.underlying5 Try.underlying9 HR0.out
 have hcv4 := Kd.C_string (P := Try.prog) (A := A1) (c := c1) Try.underlying22 Try.underlying5 Try.underlying9 HR1.out
 go_enter Try.func94,Try.ntmps94
 go_wp2
 go_ret
 exact ⟨by first | rfl | (simp;done) | (simp [*];done),by repeat (first | exact Drawn0.refl _ | apply Drawn0.step)⟩
end Go.Proofs.Ytipdkendfcopiaa.Pr
namespace Go.Proofs.Ytipdkendfcopiaa.Pr
open Go.RowKit Go.Proofs.Ytipdkendfcopiaa.Read Go.Proofs.YtipdkendfcopiaaW.PrintWords Go.Proofs.YtipdkendfcopiaaW.PrintLast Go.Proofs.YtipdkendfcopiaaW.PrintMore
set_option linter.unusedVariables false
theorem ysixteen_one {A0 : Option Addr} {c0 : Nat} {l0 : List Int} {w : World} {b : Bool} (h : Kd.C (Kd.int .u8) w A0 l0.length l0) (hc : l0.length ≤ c0) (hs : qjq.f [l0] = some b) :
  Calls Try.prog 92 #[.slice (some ⟨w.heap.size,0,none⟩) 1 1] (w.alloc (.cells #[.slice A0 l0.length c0] 22)) fun e w' => e = .returned (.bool b) ∧ ∃ nd,w' = (w.alloc (.cells #[.slice A0 l0.length c0] 22)).drewN nd := by
 have hcell : (w.alloc (.cells #[.slice A0 l0.length c0] 22)).cell? ⟨w.heap.size,0,none⟩ = some (.slice A0 l0.length c0) := (qw (blk_new w _) 0).trans rfl
 exact (qjq.calls (some ⟨w.heap.size,0,none⟩) 1 [l0] b _ (one_C (Kd.C_alloc h _) hc hcell) (by simp) hs).mono fun e w' hp => ⟨hp.1,hp.2.1⟩
theorem ysixteen_two {A0 : Option Addr} {c0 n0 : Nat} {A3 : Option Addr} {c3 : Nat} {l3 : List (List Int)} {w : World} {b : Bool} {nd : Nat} (h : Kd.C (Kd.slice 5 (Kd.int .u8)) w A3 l3.length l3) (hc : l3.length ≤ c3) (hs : qjq.f l3 = some b) :
  Calls Try.prog 92 #[.slice A3 l3.length c3] ((w.alloc (.cells #[.slice A0 n0 c0] 22)).drewN nd) fun e w' => e = .returned (.bool b) ∧ ∃ nd2,w' = ((w.alloc (.cells #[.slice A0 n0 c0] 22)).drewN nd).drewN nd2 :=
 (qjq.calls A3 c3 l3 b _ (Kd.C_drewN (Kd.C_alloc h _) _) hc hs).mono fun e w' hp => ⟨hp.1,hp.2.1⟩
def xw.f (l0 : List Int) (a1 : Int) (a2 : Int) (l3 : List (List Int)) (l4 : List Int) : Option (Bool) := if pathBytes l0 l3 then some (pathL l0 a1 a2 l3 l4) else none
set_option maxHeartbeats 2000000 in
set_option maxRecDepth 100000 in
theorem xw.calls_e0 (A0 : Option Addr) (c0 : Nat) (l0 : List Int) (a1 : Int) (a2 : Int) (A3 : Option Addr) (c3 : Nat) (l3 : List (List Int)) (A4 : Option Addr) (c4 : Nat) (l4 : List Int) (w : World) (hr0 : Kd.C (Kd.int .u8) w A0 l0.length l0) (hc0 : l0.length ≤ c0) (hr3 : Kd.C (Kd.slice 5 (Kd.int .u8)) w A3 l3.length l3) (hc3 : l3.length ≤ c3) (hr4 : Kd.C (Kd.int .u8) w A4 l4.length l4) (hc4 : l4.length ≤ c4)  (g0 : a2 < 1) :
  Calls Try.prog 50 #[.slice A0 l0.length c0,.int .i64 a1,.int .i64 a2,.slice A3 l3.length c3,.slice A4 l4.length c4] w fun e w' => e = .returned (.bool false) ∧ Below w.heap.size w w' := by
 have HR0 := qq.mk hr0
 have HC0 := qq.mk hc0
 have HR3 := qq.mk hr3
 have HC3 := qq.mk hc3
 have HR4 := qq.mk hr4
 have HC4 := qq.mk hc4
 have HS3 : qq (qjq.f l3 = some (!bad16 l3)) := ⟨rfl⟩
 have HS0 : qq (qjq.f [l0] = some (!bad16 [l0])) := ⟨rfl⟩
 have hone : bad16 [l0] = (l0.length != 16) := by simp [bad16]
 clear hr0 hc0 hr3 hc3 hr4 hc4
 have q0 : decide (a2 < 1) = true := decide_eq_true (by omega)
 clear hone HS0 HS3 g0
 go_enter Try.func50,Try.ntmps50
 go_wp2_with (first | (go_at_call 92;with_reducible refine (ysixteen_one HR0.out HC0.out HS0.out).mono ?_;rintro e w' ⟨rfl,nd,rfl⟩))
 go_ret
 exact ⟨rfl,by repeat (first | exact Below.refl _ _ | apply qz | apply below_drew | apply qj)⟩
set_option maxHeartbeats 2000000 in
set_option maxRecDepth 100000 in
theorem xw.calls_e1 (A0 : Option Addr) (c0 : Nat) (l0 : List Int) (a1 : Int) (a2 : Int) (A3 : Option Addr) (c3 : Nat) (l3 : List (List Int)) (A4 : Option Addr) (c4 : Nat) (l4 : List Int) (w : World) (hr0 : Kd.C (Kd.int .u8) w A0 l0.length l0) (hc0 : l0.length ≤ c0) (hr3 : Kd.C (Kd.slice 5 (Kd.int .u8)) w A3 l3.length l3) (hc3 : l3.length ≤ c3) (hr4 : Kd.C (Kd.int .u8) w A4 l4.length l4) (hc4 : l4.length ≤ c4) (g0 : ¬ a2 < 1) (g1 : 200 < a2) :
  Calls Try.prog 50 #[.slice A0 l0.length c0,.int .i64 a1,.int .i64 a2,.slice A3 l3.length c3,.slice A4 l4.length c4] w fun e w' => e = .returned (.bool false) ∧ Below w.heap.size w w' := by
 have HR0 := qq.mk hr0
 have HC0 := qq.mk hc0
 have HR3 := qq.mk hr3
 have HC3 := qq.mk hc3
 have HR4 := qq.mk hr4
 have HC4 := qq.mk hc4
 have HS3 : qq (qjq.f l3 = some (!bad16 l3)) := ⟨rfl⟩
 have HS0 : qq (qjq.f [l0] = some (!bad16 [l0])) := ⟨rfl⟩
 have hone : bad16 [l0] = (l0.length != 16) := by simp [bad16]
 clear hr0 hc0 hr3 hc3 hr4 hc4
 have q0 : decide (a2 < 1) = false := decide_eq_false (by omega)
 have q1 : decide (200 < a2) = true := decide_eq_true (by omega)
 clear hone HS0 HS3 g0 g1
 go_enter Try.func50,Try.ntmps50
 go_wp2_with (first | (go_at_call 92;with_reducible refine (ysixteen_one HR0.out HC0.out HS0.out).mono ?_;rintro e w' ⟨rfl,nd,rfl⟩))
 go_ret
 exact ⟨rfl,by repeat (first | exact Below.refl _ _ | apply qz | apply below_drew | apply qj)⟩
set_option maxHeartbeats 2000000 in
set_option maxRecDepth 100000 in
theorem xw.calls_e2 (A0 : Option Addr) (c0 : Nat) (l0 : List Int) (a1 : Int) (a2 : Int) (A3 : Option Addr) (c3 : Nat) (l3 : List (List Int)) (A4 : Option Addr) (c4 : Nat) (l4 : List Int) (w : World) (hr0 : Kd.C (Kd.int .u8) w A0 l0.length l0) (hc0 : l0.length ≤ c0) (hr3 : Kd.C (Kd.slice 5 (Kd.int .u8)) w A3 l3.length l3) (hc3 : l3.length ≤ c3) (hr4 : Kd.C (Kd.int .u8) w A4 l4.length l4) (hc4 : l4.length ≤ c4) (g0 : ¬ a2 < 1) (g1 : ¬ 200 < a2) (g2 : a1 < 0) :
  Calls Try.prog 50 #[.slice A0 l0.length c0,.int .i64 a1,.int .i64 a2,.slice A3 l3.length c3,.slice A4 l4.length c4] w fun e w' => e = .returned (.bool false) ∧ Below w.heap.size w w' := by
 have HR0 := qq.mk hr0
 have HC0 := qq.mk hc0
 have HR3 := qq.mk hr3
 have HC3 := qq.mk hc3
 have HR4 := qq.mk hr4
 have HC4 := qq.mk hc4
 have HS3 : qq (qjq.f l3 = some (!bad16 l3)) := ⟨rfl⟩
 have HS0 : qq (qjq.f [l0] = some (!bad16 [l0])) := ⟨rfl⟩
 have hone : bad16 [l0] = (l0.length != 16) := by simp [bad16]
 clear hr0 hc0 hr3 hc3 hr4 hc4
 have q0 : decide (a2 < 1) = false := decide_eq_false (by omega)
 have q1 : decide (200 < a2) = false := decide_eq_false (by omega)
 have q2 : decide (a1 < 0) = true := decide_eq_true (by omega)
 clear hone HS0 HS3 g0 g1 g2
 go_enter Try.func50,Try.ntmps50
 go_wp2_with (first | (go_at_call 92;with_reducible refine (ysixteen_one HR0.out HC0.out HS0.out).mono ?_;rintro e w' ⟨rfl,nd,rfl⟩))
 go_ret
 exact ⟨rfl,by repeat (first | exact Below.refl _ _ | apply qz | apply below_drew | apply qj)⟩
set_option maxHeartbeats 2000000 in
set_option maxRecDepth 100000 in
theorem xw.calls_e3 (A0 : Option Addr) (c0 : Nat) (l0 : List Int) (a1 : Int) (a2 : Int) (A3 : Option Addr) (c3 : Nat) (l3 : List (List Int)) (A4 : Option Addr) (c4 : Nat) (l4 : List Int) (w : World) (hr0 : Kd.C (Kd.int .u8) w A0 l0.length l0) (hc0 : l0.length ≤ c0) (hr3 : Kd.C (Kd.slice 5 (Kd.int .u8)) w A3 l3.length l3) (hc3 : l3.length ≤ c3) (hr4 : Kd.C (Kd.int .u8) w A4 l4.length l4) (hc4 : l4.length ≤ c4) (g0 : ¬ a2 < 1) (g1 : ¬ 200 < a2) (g2 : ¬ a1 < 0) (g3 : a2 ≤ a1) :
  Calls Try.prog 50 #[.slice A0 l0.length c0,.int .i64 a1,.int .i64 a2,.slice A3 l3.length c3,.slice A4 l4.length c4] w fun e w' => e = .returned (.bool false) ∧ Below w.heap.size w w' := by
 have HR0 := qq.mk hr0
 have HC0 := qq.mk hc0
 have HR3 := qq.mk hr3
 have HC3 := qq.mk hc3
 have HR4 := qq.mk hr4
 have HC4 := qq.mk hc4
 have HS3 : qq (qjq.f l3 = some (!bad16 l3)) := ⟨rfl⟩
 have HS0 : qq (qjq.f [l0] = some (!bad16 [l0])) := ⟨rfl⟩
 have hone : bad16 [l0] = (l0.length != 16) := by simp [bad16]
 clear hr0 hc0 hr3 hc3 hr4 hc4
 have q0 : decide (a2 < 1) = false := decide_eq_false (by omega)
 have q1 : decide (200 < a2) = false := decide_eq_false (by omega)
 have q2 : decide (a1 < 0) = false := decide_eq_false (by omega)
 have q3 : decide (a2 ≤ a1) = true := decide_eq_true (by omega)
 clear hone HS0 HS3 g0 g1 g2 g3
 go_enter Try.func50,Try.ntmps50
 go_wp2_with (first | (go_at_call 92;with_reducible refine (ysixteen_one HR0.out HC0.out HS0.out).mono ?_;rintro e w' ⟨rfl,nd,rfl⟩))
 go_ret
 exact ⟨rfl,by repeat (first | exact Below.refl _ _ | apply qz | apply below_drew | apply qj)⟩
set_option maxHeartbeats 2000000 in
set_option maxRecDepth 100000 in
theorem xw.calls_leaf (A0 : Option Addr) (c0 : Nat) (l0 : List Int) (a1 : Int) (a2 : Int) (A3 : Option Addr) (c3 : Nat) (l3 : List (List Int)) (A4 : Option Addr) (c4 : Nat) (l4 : List Int) (w : World) (hr0 : Kd.C (Kd.int .u8) w A0 l0.length l0) (hc0 : l0.length ≤ c0) (hr3 : Kd.C (Kd.slice 5 (Kd.int .u8)) w A3 l3.length l3) (hc3 : l3.length ≤ c3) (hr4 : Kd.C (Kd.int .u8) w A4 l4.length l4) (hc4 : l4.length ≤ c4) (g0 : ¬ a2 < 1) (g1 : ¬ 200 < a2) (g2 : ¬ a1 < 0) (g3 : ¬ a2 ≤ a1) (g5 : ¬ l0.length = 16) :
  Calls Try.prog 50 #[.slice A0 l0.length c0,.int .i64 a1,.int .i64 a2,.slice A3 l3.length c3,.slice A4 l4.length c4] w fun e w' => e = .returned (.bool false) ∧ Below w.heap.size w w' := by
 have HR0 := qq.mk hr0
 have HC0 := qq.mk hc0
 have HR3 := qq.mk hr3
 have HC3 := qq.mk hc3
 have HR4 := qq.mk hr4
 have HC4 := qq.mk hc4
 have HS3 : qq (qjq.f l3 = some (!bad16 l3)) := ⟨rfl⟩
 have HS0 : qq (qjq.f [l0] = some (!bad16 [l0])) := ⟨rfl⟩
 have hone : bad16 [l0] = (l0.length != 16) := by simp [bad16]
 clear hr0 hc0 hr3 hc3 hr4 hc4
 have q0 : decide (a2 < 1) = false := decide_eq_false (by omega)
 have q1 : decide (200 < a2) = false := decide_eq_false (by omega)
 have q2 : decide (a1 < 0) = false := decide_eq_false (by omega)
 have q3 : decide (a2 ≤ a1) = false := decide_eq_false (by omega)
 replace HS0 : qq (qjq.f [l0] = some false) := ⟨by rw [HS0.out,hone];simp;omega⟩
 clear hone g0 g1 g2 g3 g5
 go_enter Try.func50,Try.ntmps50
 go_wp2_with (first | (go_at_call 92;with_reducible refine (ysixteen_one HR0.out HC0.out HS0.out).mono ?_;rintro e w' ⟨rfl,nd,rfl⟩))
 go_ret
 exact ⟨rfl,by repeat (first | exact Below.refl _ _ | apply qz | apply below_drew | apply qj)⟩
set_option maxHeartbeats 2000000 in
set_option maxRecDepth 100000 in
theorem xw.calls_bad (A0 : Option Addr) (c0 : Nat) (l0 : List Int) (a1 : Int) (a2 : Int) (A3 : Option Addr) (c3 : Nat) (l3 : List (List Int)) (A4 : Option Addr) (c4 : Nat) (l4 : List Int) (w : World) (hr0 : Kd.C (Kd.int .u8) w A0 l0.length l0) (hc0 : l0.length ≤ c0) (hr3 : Kd.C (Kd.slice 5 (Kd.int .u8)) w A3 l3.length l3) (hc3 : l3.length ≤ c3) (hr4 : Kd.C (Kd.int .u8) w A4 l4.length l4) (hc4 : l4.length ≤ c4) (g0 : ¬ a2 < 1) (g1 : ¬ 200 < a2) (g2 : ¬ a1 < 0) (g3 : ¬ a2 ≤ a1) (g5 : l0.length = 16) (g6 : bad16 l3 = true) :
  Calls Try.prog 50 #[.slice A0 l0.length c0,.int .i64 a1,.int .i64 a2,.slice A3 l3.length c3,.slice A4 l4.length c4] w fun e w' => e = .returned (.bool false) ∧ Below w.heap.size w w' := by
 have HR0 := qq.mk hr0
 have HC0 := qq.mk hc0
 have HR3 := qq.mk hr3
 have HC3 := qq.mk hc3
 have HR4 := qq.mk hr4
 have HC4 := qq.mk hc4
 have HS3 : qq (qjq.f l3 = some (!bad16 l3)) := ⟨rfl⟩
 have HS0 : qq (qjq.f [l0] = some (!bad16 [l0])) := ⟨rfl⟩
 have hone : bad16 [l0] = (l0.length != 16) := by simp [bad16]
 clear hr0 hc0 hr3 hc3 hr4 hc4
 have q0 : decide (a2 < 1) = false := decide_eq_false (by omega)
 have q1 : decide (200 < a2) = false := decide_eq_false (by omega)
 have q2 : decide (a1 < 0) = false := decide_eq_false (by omega)
 have q3 : decide (a2 ≤ a1) = false := decide_eq_false (by omega)
 replace HS0 : qq (qjq.f [l0] = some true) := ⟨by rw [HS0.out,hone,g5];rfl⟩
 replace HS3 : qq (qjq.f l3 = some false) := ⟨by rw [HS3.out,g6];rfl⟩
 clear hone g0 g1 g2 g3 g5 g6
 go_enter Try.func50,Try.ntmps50
 go_wp2_with (first | (go_at_call 92;with_reducible refine (ysixteen_one HR0.out HC0.out HS0.out).mono ?_;rintro e w' ⟨rfl,nd,rfl⟩) | (go_at_call 92;with_reducible refine (ysixteen_two HR3.out HC3.out HS3.out).mono ?_;rintro e w' ⟨rfl,nd2,rfl⟩))
 go_ret
 exact ⟨rfl,by repeat (first | exact Below.refl _ _ | apply qz | apply below_drew | apply qj)⟩
set_option maxHeartbeats 2000000 in
set_option maxRecDepth 100000 in
theorem xw.calls_good (A0 : Option Addr) (c0 : Nat) (l0 : List Int) (a1 : Int) (a2 : Int) (A3 : Option Addr) (c3 : Nat) (l3 : List (List Int)) (A4 : Option Addr) (c4 : Nat) (l4 : List Int) (w : World) (hr0 : Kd.C (Kd.int .u8) w A0 l0.length l0) (hc0 : l0.length ≤ c0) (hr3 : Kd.C (Kd.slice 5 (Kd.int .u8)) w A3 l3.length l3) (hc3 : l3.length ≤ c3) (hr4 : Kd.C (Kd.int .u8) w A4 l4.length l4) (hc4 : l4.length ≤ c4) (hb : pathBytes l0 l3) (hok : pathOk l0 a1 a2 l3) :
  Calls Try.prog 50 #[.slice A0 l0.length c0,.int .i64 a1,.int .i64 a2,.slice A3 l3.length c3,.slice A4 l4.length c4] w fun e w' => e = .returned (.bool (pathL l0 a1 a2 l3 l4)) ∧ Below w.heap.size w w' := by
 have HR0 := qq.mk hr0
 have HC0 := qq.mk hc0
 have HR3 := qq.mk hr3
 have HC3 := qq.mk hc3
 have HR4 := qq.mk hr4
 have HC4 := qq.mk hc4
 have HS3 : qq (qjq.f l3 = some (!bad16 l3)) := ⟨rfl⟩
 have HS0 : qq (qjq.f [l0] = some (!bad16 [l0])) := ⟨rfl⟩
 have hone : bad16 [l0] = (l0.length != 16) := by simp [bad16]
 clear hr0 hc0 hr3 hc3 hr4 hc4
 have hsx := ok_six hb hok
 obtain ⟨g1,g2,g3,g4,g5,g6⟩ := hok
 rw [show pathL l0 a1 a2 l3 l4 = ((upL l0 l3 l3.length a1 a2).2 && ((strOfNums (upL l0 l3 l3.length a1 a2).1).toList == (strOfNums l4).toList)) from if_pos ⟨g1,g2,g3,g4,g5,g6⟩]
 have HU := qq.mk (climb_calls l0 l3 hsx.1 (by omega) hsx.2 l3.length a1 a2)
 generalize upL l0 l3 l3.length a1 a2 = res at HU ⊢
 obtain ⟨r1,r2⟩ := res
 dsimp only at HU ⊢
 have q0 : decide (a2 < 1) = false := decide_eq_false (by omega)
 have q1 : decide (200 < a2) = false := decide_eq_false (by omega)
 have q2 : decide (a1 < 0) = false := decide_eq_false (by omega)
 have q3 : decide (a2 ≤ a1) = false := decide_eq_false (by omega)
 replace HS0 : qq (qjq.f [l0] = some true) := ⟨by rw [HS0.out,hone,g5];rfl⟩
 replace HS3 : qq (qjq.f l3 = some true) := ⟨by rw [HS3.out,g6];rfl⟩
 have G := qq.mk (And.intro g1 (And.intro g2 (And.intro g3 g4)))
 clear hb hsx g1 g2 g3 g4 g5 g6 hone
 cases r2 with
 | true =>
  have qe := fun (W : World) (ad' : Addr) (c' : Nat) => run_neq_slice_nil_any (P := Try.prog) W 22 5 (some ad') r1.length c' 0 0 Try.underlying22
  go_enter Try.func50,Try.ntmps50
  go_wp2_with (first | (go_at_call 92;with_reducible refine (ysixteen_one HR0.out HC0.out HS0.out).mono ?_;rintro e w' ⟨rfl,nd,rfl⟩) | (go_at_call 92;with_reducible refine (ysixteen_two HR3.out HC3.out HS3.out).mono ?_;rintro e w' ⟨rfl,nd2,rfl⟩) | (go_at_call 93;refine (HU.out _ A0 c0 A3 c3 (Nat.le_refl _) G.out.2.2.1 G.out.2.2.2 G.out.2.1 (by repeat (first | exact HR0.out | apply Kd.C_alloc | apply Kd.C_drewN | apply Kd.C_drew)) HC0.out (by rw [List.take_length];exact (by repeat (first | exact HR3.out | apply Kd.C_alloc | apply Kd.C_drewN | apply Kd.C_drew))) HC3.out).mono ?_;rintro e w1 hpost;have hB1 : qq (Below w.heap.size w w1) := ⟨zv (by repeat (first | exact Below.refl _ _ | apply qz | apply below_drew | apply qj)) hpost.below⟩;obtain ⟨AR,cR,rfl,hR,hCR⟩ := hpost.yes rfl;clear hpost;replace hR := qq.mk hR;replace hCR := qq.mk hCR) | (go_at_call 94;refine (xz.calls (some AR) cR r1 A4 c4 l4 _ _ (by repeat (first | exact hCR.out | apply Kd.C_drewN | apply Kd.C_drew)) hR.out (by repeat (first | exact Kd.C_below HR4.out hB1.out | apply Kd.C_drewN | apply Kd.C_drew)) HC4.out rfl).mono ?_;rintro e w' ⟨rfl,⟨⟨nd3,rfl⟩⟩⟩))
  go_ret
  exact ⟨by first | rfl | (simp;done),by repeat (first | exact hB1.out | apply qz | apply below_drew)⟩
 | false =>
  have qe := fun (W : World) => run_neq_slice_nil_any (P := Try.prog) W 22 5 none 0 0 0 0 Try.underlying22
  go_enter Try.func50,Try.ntmps50
  go_wp2_with (first | (go_at_call 92;with_reducible refine (ysixteen_one HR0.out HC0.out HS0.out).mono ?_;rintro e w' ⟨rfl,nd,rfl⟩) | (go_at_call 92;with_reducible refine (ysixteen_two HR3.out HC3.out HS3.out).mono ?_;rintro e w' ⟨rfl,nd2,rfl⟩) | (go_at_call 93;refine (HU.out _ A0 c0 A3 c3 (Nat.le_refl _) G.out.2.2.1 G.out.2.2.2 G.out.2.1 (by repeat (first | exact HR0.out | apply Kd.C_alloc | apply Kd.C_drewN | apply Kd.C_drew)) HC0.out (by rw [List.take_length];exact (by repeat (first | exact HR3.out | apply Kd.C_alloc | apply Kd.C_drewN | apply Kd.C_drew))) HC3.out).mono ?_;rintro e w1 hpost;have hB1 : qq (Below w.heap.size w w1) := ⟨zv (by repeat (first | exact Below.refl _ _ | apply qz | apply below_drew | apply qj)) hpost.below⟩;obtain rfl := hpost.no rfl;clear hpost))
  go_ret
  exact ⟨by first | rfl | (simp;done),by repeat (first | exact hB1.out | apply qz | apply below_drew)⟩
set_option maxHeartbeats 2000000 in
set_option maxRecDepth 100000 in
theorem xw.calls (A0 : Option Addr) (c0 : Nat) (l0 : List Int) (a1 : Int) (a2 : Int) (A3 : Option Addr) (c3 : Nat) (l3 : List (List Int)) (A4 : Option Addr) (c4 : Nat) (l4 : List Int) (r : Bool) (w : World) (hr0 : Kd.C (Kd.int .u8) w A0 l0.length l0) (hc0 : l0.length ≤ c0) (hr3 : Kd.C (Kd.slice 5 (Kd.int .u8)) w A3 l3.length l3) (hc3 : l3.length ≤ c3) (hr4 : Kd.C (Kd.int .u8) w A4 l4.length l4) (hc4 : l4.length ≤ c4) (h : xw.f l0 a1 a2 l3 l4 = some r) :
  Calls Try.prog 50 #[.slice A0 l0.length c0,.int .i64 a1,.int .i64 a2,.slice A3 l3.length c3,.slice A4 l4.length c4] w fun e w' => e = .returned (.bool r) ∧ Below w.heap.size w w' := by
 unfold xw.f at h
 by_cases hb : pathBytes l0 l3
 case neg => rw [if_neg hb] at h;cases h
 rw [if_pos hb] at h
 obtain rfl := Option.some.inj h
 by_cases hok : pathOk l0 a1 a2 l3
 ·exact xw.calls_good A0 c0 l0 a1 a2 A3 c3 l3 A4 c4 l4 w hr0 hc0 hr3 hc3 hr4 hc4 hb hok
 rw [show pathL l0 a1 a2 l3 l4 = false from if_neg hok]
 by_cases g0 : a2 < 1
 ·exact xw.calls_e0 A0 c0 l0 a1 a2 A3 c3 l3 A4 c4 l4 w hr0 hc0 hr3 hc3 hr4 hc4 g0
 by_cases g1 : 200 < a2
 ·exact xw.calls_e1 A0 c0 l0 a1 a2 A3 c3 l3 A4 c4 l4 w hr0 hc0 hr3 hc3 hr4 hc4 g0 g1
 by_cases g2 : a1 < 0
 ·exact xw.calls_e2 A0 c0 l0 a1 a2 A3 c3 l3 A4 c4 l4 w hr0 hc0 hr3 hc3 hr4 hc4 g0 g1 g2
 by_cases g3 : a2 ≤ a1
 ·exact xw.calls_e3 A0 c0 l0 a1 a2 A3 c3 l3 A4 c4 l4 w hr0 hc0 hr3 hc3 hr4 hc4 g0 g1 g2 g3
 by_cases g5 : l0.length = 16
 ·have g6 : bad16 l3 = true := by
   cases hb3 : bad16 l3 with
   | true => rfl
   | false => exact absurd ⟨by omega,by omega,by omega,by omega,g5,hb3⟩ hok
  exact xw.calls_bad A0 c0 l0 a1 a2 A3 c3 l3 A4 c4 l4 w hr0 hc0 hr3 hc3 hr4 hc4 g0 g1 g2 g3 g5 g6
 ·exact xw.calls_leaf A0 c0 l0 a1 a2 A3 c3 l3 A4 c4 l4 w hr0 hc0 hr3 hc3 hr4 hc4 g0 g1 g2 g3 g5
end Go.Proofs.Ytipdkendfcopiaa.Pr
namespace Go.Proofs.Ytipdkendfcopiaa.Pr
open Go.RowKit Go.Proofs.YtipdkendfcopiaaW.PrintWords Go.Proofs.YtipdkendfcopiaaW.PrintLast Go.Proofs.YtipdkendfcopiaaW.PrintMore
set_option linter.unusedVariables false
def bytesOfS.f (s : ByteArray) : Option (List Int) := if s.size ≤ 9223372036854775807 then some (bytesOf s) else none
def BytesCalls (P : Program) (src dst : TypeId) (s : ByteArray) (w : World) (R : Ending → World → Prop) : Prop :=
 ∃ v w',(convert src dst (.string s)).run P w = .ok v w' ∧ R (.returned v) w'
theorem BytesCalls.mono {P : Program} {src dst : TypeId} {s : ByteArray} {w : World} {R R' : Ending → World → Prop} (h : BytesCalls P src dst s w R) (hr : ∀ e w',R e w' → R' e w') : BytesCalls P src dst s w R' :=
 let ⟨v,w',h1,h2⟩ := h;⟨v,w',h1,hr _ _ h2⟩
theorem bytesOfS.calls (a0 : ByteArray) (r : List Int) (w : World) (h : bytesOfS.f a0 = some r) :
  BytesCalls Try.prog 9 22 a0 w fun e w' => ∃ v0_ : Value,e = .returned (v0_) ∧ Kd.V (Kd.int .u8) 5 w' w.heap.size (fun k_ => (w.heap.size ≤ k_)) v0_ r ∧ Below w.heap.size w w' := by
 unfold bytesOfS.f at h
 by_cases hs : a0.size ≤ 9223372036854775807
 case neg => rw [if_neg hs] at h;cases h
 rw [if_pos hs] at h
 obtain rfl := Option.some.inj h
 refine ⟨_,_,print_bytes 9 22 5 Try.underlying9 Try.underlying22 Try.underlying5 a0 w,_,rfl,?_,xj (Below.refl _ _) (Nat.le_refl _) 5 a0⟩
 have hcell : ∀ W' : World,W'.heap[w.heap.size]? = (Lib.bytesWorld w 5 a0).heap[w.heap.size]? → (Kd.int .u8).C W' (some ⟨w.heap.size,0,none⟩) (bytesOf a0).length (bytesOf a0) := by
  intro W' hW
  have h0 := xv w 5 a0 hs
  have h1 : ReadsInt W' .u8 (some ⟨w.heap.size,0,none⟩) (bytesOf a0).length (bytesOf a0) := by
   refine ⟨rfl,by rw [bytesOf_length];exact hs,fun hp => ?_⟩
   obtain ⟨ad,e1,hc⟩ := h0.2.2 (by rw [bytesOf_length] at hp;exact hp)
   refine ⟨ad,e1,fun j hj => ?_⟩
   rw [← hc j (by rw [bytesOf_length] at hj;exact hj)]
   injection e1 with e1
   subst e1
   rw [add_plain]
   exact World.cell?_of_block (by exact hW)
  exact Kd.C_of_reads (d := (0 : Int)) (h1 := fun _ => rfl) h1
 refine ⟨some ⟨w.heap.size,0,none⟩,grownCap w a0.size 0 5,by rw [bytesOf_length],by rw [bytesOf_length];exact grownCap_ge _ _ _ _,fun W' hW => hcell W' (hW _ (Nat.le_refl _) ?_)⟩
 rw [Lib.bytesWorld_size];omega
section
variable {P : Program} {ops : Array Oper} {Q : Exit → Act → World → Prop}
theorem gate_convert {rest : List Oper} {o : Oper} {a : Act} {W : World} {src dst : TypeId} {x : Operand} (_ho : o.op = .convert src dst x) (h : wpList P ops Q (o :: rest) a W) : wpList P ops Q (o :: rest) a W := h
theorem bytesGoesL_ {rest : List Oper} {oi : Oper} {a : Act} {w : World} (N : Option Tmp) (hd : oi.dst = N) (hg : oi.guard = none) {src dst : TypeId} {x : Operand} {s : ByteArray} (hop : oi.op = .convert src dst x) (hx : a.eval x = .string s)
  (h : BytesCalls P src dst s w fun e w' => ∃ v,e = .returned v ∧ wpList P ops Q rest (a.put N v) w') : wpList P ops Q (oi :: rest) a w := by
 obtain ⟨v,w',hr,v',he,hw⟩ := h
 injection he with he
 subst he
 subst hd
 refine Kd.event_run hg ?_ hw
 unfold execOp
 simp [hop,hx,hr]
theorem bytesGoes_ {oi : Oper} {N : Option Tmp} {a : Act} {w : World} {K : Act → World → Prop} {src dst : TypeId} {x : Operand} {s : ByteArray}
  (hw : Region.wanted oi (yielded ops a.tmps) = true) (hN : oi.dst = N) (hop : oi.op = .convert src dst x) (hx : a.eval x = .string s)
  (h : BytesCalls P src dst s w fun e w' => ∃ v,e = .returned v ∧ K (a.put N v) w') : if Region.wanted oi (yielded ops a.tmps) = true then Oper.wp P oi a w K Q else K (a.put N undef) w := by
 obtain ⟨v,w',hr,v',he,hk⟩ := h
 injection he with he
 subst he
 subst hN
 refine event_step hw ?_ hk
 unfold execOp
 simp [hop,hx,hr]
def BoxCalls (t : TypeId) (cs : Array Value) (w : World) (R : Ending → World → Prop) : Prop := R (.returned (.pointer (some ⟨w.heap.size,0,none⟩))) (w.alloc (.cells cs t (0,0)))
theorem BoxCalls.mono {t : TypeId} {cs : Array Value} {w : World} {R R' : Ending → World → Prop} (h : BoxCalls t cs w R) (hr : ∀ e w',R e w' → R' e w') : BoxCalls t cs w R' := hr _ _ h
theorem gate_box {rest : List Oper} {o : Oper} {a : Act} {W : World} {t : TypeId} {x : Operand} (_ho : o.op = .box t x) (h : wpList P ops Q (o :: rest) a W) : wpList P ops Q (o :: rest) a W := h
theorem boxGoesL_ {rest : List Oper} {oi : Oper} {a : Act} {w : World} (N : Option Tmp) (hd : oi.dst = N) (hg : oi.guard = none) {t : TypeId} {cs : Array Value}
  (hr : (execOp a.eval oi).run P w = .ok (.value (.pointer (some ⟨w.heap.size,0,none⟩))) (w.alloc (.cells cs t (0,0))))
  (h : BoxCalls t cs w fun e w' => ∃ v,e = .returned v ∧ wpList P ops Q rest (a.put N v) w') : wpList P ops Q (oi :: rest) a w := by
 obtain ⟨v',he,hw⟩ := h
 injection he with he
 subst he
 subst hd
 exact Kd.event_run hg hr hw
end
end Go.Proofs.Ytipdkendfcopiaa.Pr
namespace Go.Proofs.Ytipdkendfcopiaa.Pr
open Go.RowKit Go.Proofs.YtipdkendfcopiaaW.PrintWords
def nilS.f (l : List Int) : Option Bool := some (decide (l.length = 0))
theorem nil_absurd {l : List Int} {P : Prop} (hp : 0 < l.length) : l.length = 0 → P := fun h => absurd h (Nat.ne_of_gt hp)
theorem nil_absurd' {l : List Int} {P : Prop} (hp : 0 < l.length) : l = [] → P := fun h => absurd (congrArg List.length h) (Nat.ne_of_gt hp)
theorem eqlnil (W : World) (A : Option Addr) (n c : Nat) : (binOp .eql 22 (.slice A n c) (.slice none 0 0)).run Try.prog W = .ok (.bool A.isNone) W := Lib.run_eql_slice_nil W 22 5 A n c 0 0 Try.underlying22
theorem nil_is {l : List Int} {A : Option Addr} {n c : Nat} (hn : l.length = 0 → Value.slice A n c = .slice none 0 0) (h : nilS.f l = some true) : A.isNone = true := by
 have := hn (of_decide_eq_true (Option.some.inj h))
 injection this with h1
 rw [h1]
 rfl
theorem nil_isnt {e : Nat} {w : World} {base : Nat} {ok : Nat → Prop} {l : List Int} {A : Option Addr} {n c : Nat} (ho : Kd.R (Kd.int .u8) e w base ok (.slice A n c) l) (h : nilS.f l = some false) : A.isNone = false := by
 obtain ⟨g,cp,h1,_⟩ := Kd.R_form ho (Nat.pos_of_ne_zero (of_decide_eq_false (Option.some.inj h)))
 injection h1 with h1
 rw [h1]
 rfl
theorem nilS_false {l : List Int} (h : nilS.f l = some false) : 0 < l.length := by
 have := Option.some.inj h
 exact Nat.pos_of_ne_zero (of_decide_eq_false this)
theorem mixN_len (a : List Int) (x : Int) : ∀ n,(mixN a x n).length = a.length := fun n => mix_len a x n
theorem dgAll_length : ∀ (l a : List Int),(dgAll a l).length = a.length
 | [],a => rfl
 | x :: l,a => by
  show (dgAll (dgMix a x) l).length = _
  rw [dgAll_length l (dgMix a x)]
  exact mixN_len a x 4
theorem flatMap_yb_len : ∀ a : List Int,(a.flatMap yb).length = 4 * a.length
 | [] => rfl
 | x :: a => by
  rw [List.flatMap_cons,List.length_append,flatMap_yb_len a]
  simp only [yb,List.length_cons,List.length_nil]
  omega
theorem digest_pos {l r : List Int} (h : qqq.f l = some r) : 0 < r.length := by
 unfold qqq.f at h
 by_cases hb : isBytes l
 case neg => rw [if_neg hb] at h;cases h
 rw [if_pos hb] at h
 by_cases hl : (l.length : Int) > 20000
 ·rw [if_pos hl] at h;cases h
 ·rw [if_neg hl] at h
  obtain rfl := Option.some.inj h
  rw [dg,flatMap_yb_len,dgS,dgAll_length,dgAll_length,dgAll_length]
  simp
end Go.Proofs.Ytipdkendfcopiaa.Pr
namespace Go.Proofs.Ytipdkendfcopiaa.Pr
open Go.RowKit Go.Proofs.YtipdkendfcopiaaW.PrintWords Go.Proofs.YtipdkendfcopiaaW.PrintLast Go.Proofs.YtipdkendfcopiaaW.PrintMore
set_option linter.unusedVariables false
def xq.f (l0 : List Int) : Option (List Int) := if l0.length ≤ 140737488355328 then some l0 else none
set_option maxHeartbeats 1000000 in
set_option maxRecDepth 100000 in
theorem xq.calls (A0 : Option Addr) (c0 : Nat) (l0 : List Int) (r : List Int) (w : World) (hr0 : Kd.C (Kd.int .u8) w A0 l0.length l0) (hc0 : l0.length ≤ c0) (h : xq.f l0 = some r) :
  Calls Try.prog 74 #[.slice A0 l0.length c0] w fun e w' => ∃ v0_ : Value,e = .returned (v0_) ∧ Kd.R (Kd.int .u8) 5 w' w.heap.size (fun _ => True) v0_ r ∧ Below w.heap.size w w' := by
 unfold xq.f at h
 by_cases hs : l0.length ≤ 140737488355328
 case neg => rw [if_neg hs] at h;cases h
 rw [if_pos hs] at h
 obtain rfl := Option.some.inj h
 clear h
 have HR0 := qq.mk hr0
 have HC0 := qq.mk hc0
 have HS := qq.mk hs
 clear hr0 hc0 hs
 cases A0 with
 | none =>
  have h0 : l0.length = 0 := by
   rcases Nat.eq_zero_or_pos l0.length with h0 | h0
   ·exact h0
   ·obtain ⟨ad,h,_⟩ := HR0.out.2.2 h0
    cases h
  obtain rfl := List.eq_nil_of_length_eq_zero h0
  have qe := fun (W : World) => Lib.run_eql_slice_nil (P := Try.prog) W 22 5 none 0 c0 0 0 Try.underlying22
  simp only [List.length_nil]
  go_enter Try.func74,Try.ntmps74
  go_wp2
  go_ret
  exact ⟨_,rfl,Kd.R_nil _ _ _ _ _,Below.refl _ _⟩
 | some ad =>
  have qe := fun (W : World) => Lib.run_eql_slice_nil (P := Try.prog) W 22 5 (some ad) l0.length c0 0 0 Try.underlying22
  have HO : qq ((Kd.int .u8).R 5 (w.alloc (.cells #[] 5)) w.heap.size (fun _ => True) (.slice (some ⟨w.heap.size,0,none⟩) 0 0) []) := ⟨Kd.R_of_own (h1 := fun _ => rfl) (own_lit w w.heap.size 5 .u8 [] (Nat.le_refl _) (by simp)) (fun _ _ => trivial)⟩
  have HB : qq (Below w.heap.size w (w.alloc (.cells #[] 5))) := ⟨qj (Below.refl _ _) _⟩
  go_enter Try.func74,Try.ntmps74
  go_wp2_with ((with_reducible refine gate_builtin (b := .append) (xs := #[.tmp 5,.tmp 6]) rfl ?_);at_builtin;refine Kd.R_append_row (Value.int .u8) 0 (w0 := w) w.heap.size rfl (.tmp 5) (.tmp 6) 22 5 (.int .u8 0) 1 rfl Try.underlying22 info5 rfl (by decide) _ [] l0 _ _ _ (fun _ => True) rfl rfl (fun _ _ => trivial) HO.out (Kd.C_below HR0.out HB.out) HB.out HB.out.size ?aL ?_;(case aL => have := HS.out;simp;omega);intro v1 w3 hr hb hg hat;replace hr := qq.mk hr;replace hb := qq.mk hb;clear hg hat)
  go_ret
  have h := hr.out
  rw [List.nil_append] at h
  exact ⟨_,rfl,h,hb.out⟩
end Go.Proofs.Ytipdkendfcopiaa.Pr
namespace Go.Proofs.Ytipdkendfcopiaa.Pr
open Go.RowKit Go.Proofs.YtipdkendfcopiaaW.PrintWords Go.Proofs.YtipdkendfcopiaaW.PrintLast Go.Proofs.YtipdkendfcopiaaW.PrintMore
attribute [local go_sem] max2_int min2_int max_two min_two max_three min_three max_four min_four
set_option linter.unusedVariables false
set_option linter.unusedSimpArgs false
def qqk.j0 : Nat → List Int → List Int → Bool → Option (List Int)
 | 0,_,_,_ => none
 | k + 1,x0,x1,x12 => if x12 = true then (some ([] : List Int)) else ((qqq.f x0).bind fun t101 => ((qqq.f x1).bind fun t104 => (if t101.length + t104.length < 140737488355328 then ((qqq.f (t101 ++ t104)).bind fun t110 => (some t110)) else (none))))
def qqk.f (k : Nat) (l0 : List Int) (l1 : List Int) : Option (List Int) := if (l0.length : Int) > 20000 then (qqk.j0 k l0 l1 true) else (qqk.j0 k l0 l1 (decide ((l1.length : Int) > 20000)))
set_option maxHeartbeats 8000000 in
set_option maxRecDepth 100000 in
theorem qqk.calls (k : Nat) (A0 : Option Addr) (c0 : Nat) (l0 : List Int) (A1 : Option Addr) (c1 : Nat) (l1 : List Int) (r : List Int) (w : World) (hr0 : Kd.C (Kd.int .u8) w A0 l0.length l0) (hc0 : l0.length ≤ c0) (hr1 : Kd.C (Kd.int .u8) w A1 l1.length l1) (hc1 : l1.length ≤ c1) (h : qqk.f k l0 l1 = some r) :
  Calls Try.prog 75 #[.slice A0 l0.length c0,.slice A1 l1.length c1] w fun e w' => ∃ v0_ : Value,e = .returned (v0_) ∧ Kd.R (Kd.int .u8) 5 w' w.heap.size (fun _ => True) v0_ r ∧ Below w.heap.size w w' := by
 have HR0 := qq.mk hr0
 have HC0 := qq.mk hc0
 clear hr0 hc0
 have HR1 := qq.mk hr1
 have HC1 := qq.mk hc1
 clear hr1 hc1
 have HB := qq.mk (Below.refl w.heap.size w)
 have H : (if (l0.length : Int) > 20000 then (qqk.j0 k l0 l1 true) else (qqk.j0 k l0 l1 (decide ((l1.length : Int) > 20000)))) = some r := h
 clear h
 have HC3 := qq.mk H
 clear H
 go_enter Try.func75,Try.ntmps75
 go_upto_region 1 with (fail)
 go_cut [12] (fun v12 wc => ∃ (kq : Nat) (x12_2 : Bool),v12 = .bool x12_2 ∧ qq (qqk.j0 kq l0 l1 x12_2 = some r) ∧ qq (kq ≤ k) ∧ qq (Below w.heap.size w wc))
 case first =>
  have H := HC3.out
  clear HC3
  by_cases c4 : (l0.length : Int) > 20000
  ·rw [if_pos c4] at H
   have c4b0 : decide (20000 < (l0.length : Int)) = true := decide_eq_true c4
   have c4b1 : decide (20000 < l0.length) = true := decide_eq_true (by omega)
   clear c4
   (first | rw [c4b0] | (simp only [i64_w,i32_w];rw [c4b0]) | skip)
   have H' := qq.mk H
   clear H
   go_wp2
   go_meet
   case rel => exact ⟨_,(true),(by first | rfl | (simp;done) | (simp [*];done)),H',⟨by first | omega | exact Nat.le_refl _⟩,⟨by repeat (first | (with_reducible first | exact HB.out | apply qj | apply qz | apply qk) | exact HB.out)⟩⟩
  ·rw [if_neg c4] at H
   have c4b0 : decide (20000 < (l0.length : Int)) = false := decide_eq_false c4
   have c4b1 : decide (20000 < l0.length) = false := decide_eq_false (by omega)
   clear c4
   (first | rw [c4b0] | (simp only [i64_w,i32_w];rw [c4b0]) | skip)
   have H' := qq.mk H
   clear H
   go_wp2
   go_meet
   case rel => exact ⟨_,(decide ((l1.length : Int) > 20000)),(by first | rfl | (simp;done) | (simp [*];done)),H',⟨by first | omega | exact Nat.le_refl _⟩,⟨by repeat (first | (with_reducible first | exact HB.out | apply qj | apply qz | apply qk) | exact HB.out)⟩⟩
 case rest =>
  clear HC3
  try clear c1
  try clear p2
  try clear c4
  try clear c4b0
  try clear c4b1
  obtain ⟨kq,x12_2,rfl,HA,HJ2,HB⟩ := hcut
  cases kq with
  | zero => exact absurd HA.out (by simp [qqk.j0])
  | succ kj2 =>
   have H := HA.out
   clear HA
   simp only [qqk.j0] at H
   by_cases c5 : x12_2 = true
   ·subst c5
    have H1 : (some ([] : List Int)) = some r := by rw [if_pos rfl] at H;exact H
    clear H
    have H := H1
    clear H1
    obtain rfl := Option.some.inj H
    go_wp2
    go_ret
    exact ⟨_,by first | rfl | (simp [*,kz,jx] <;> rfl),by first | exact Kd.R_nil _ _ _ _ _ | exact Kd.N_nil _ _ _ _ _ | exact Kd.V_nil _ _ _ _ _ | exact Kd.Q_nil _ _ _ _ _ | exact Kd.S_nil _ _ _ _ _,by repeat (first | (with_reducible first | exact HB.out | apply qj | apply qz | apply qk) | exact HB.out)⟩
   ·replace c5 := Bool.eq_false_iff.mpr c5
    subst c5
    have H1 : ((qqq.f l0).bind fun t101 => ((qqq.f l1).bind fun t104 => (if t101.length + t104.length < 140737488355328 then ((qqq.f (t101 ++ t104)).bind fun t110 => (some t110)) else (none)))) = some r := by rw [if_neg (show ¬ (false = true) by decide)] at H;exact H
    clear H
    have H := H1
    clear H1
    replace H := Option.bind_eq_some_iff.mp H
    obtain ⟨t101,A60,H⟩ := H
    replace H : ((qqq.f l1).bind fun t104 => (if t101.length + t104.length < 140737488355328 then ((qqq.f (t101 ++ t104)).bind fun t110 => (some t110)) else (none))) = some r := H
    have A6 := qq.mk A60
    clear A60
    replace H := Option.bind_eq_some_iff.mp H
    obtain ⟨t104,A70,H⟩ := H
    replace H : (if t101.length + t104.length < 140737488355328 then ((qqq.f (t101 ++ t104)).bind fun t110 => (some t110)) else (none)) = some r := H
    have A7 := qq.mk A70
    clear A70
    by_cases c8 : t101.length + t104.length < 140737488355328
    ·rw [if_pos c8] at H
     have LMc8 := qq.mk c8
     clear c8
     obtain ⟨y107,hy107⟩ : ∃ y_ : List Int,y_ = (t101 ++ t104) := ⟨_,rfl⟩
     replace H : ((qqq.f y107).bind fun t110 => (some t110)) = some r := by first | (rw [hy107];with_reducible exact H) | (have H2_ := (Option.bind_some _ _).symm.trans H;rw [hy107];with_reducible exact H2_) | (have H2_ := (Option.bind_some _ _).symm.trans H;with_reducible exact H2_) | with_reducible exact H | (rw [hy107];exact H) | exact H
     have Ny107 := qq.mk hy107
     clear hy107
     replace H := Option.bind_eq_some_iff.mp H
     obtain ⟨t110,A90,H⟩ := H
     replace H : (some t110) = some r := H
     have A9 := qq.mk A90
     clear A90
     obtain rfl := Option.some.inj H
     go_wp2_with (first | ((with_reducible refine kj (f := 77) rfl ?_);refine goesL_ (some 14) rfl rfl Try.func77 (by kernel_rfl) rfl #[.slice A0 l0.length c0] rfl (by (try simp only [List.map_toArray,List.map_cons,List.map_nil]);first | done | rfl | (simp only [List.length_drop,List.length_take];rfl)) ?_;(with_reducible refine (qqq.calls _ _ l0 t101 _ ?side1 ?side2 A6.out).mono ?_);(case side1 => repeat (first | exact (Kd.C_below HR0.out HB.out) | (with_reducible refine Kd.C_alloc ?_ _) | (with_reducible refine Kd.C_drewN ?_ _) | (with_reducible refine Kd.C_drew ?_)));(case side2 => exact HC0.out);rintro e w10 ⟨v102,rfl,ho0,hb⟩;refine ⟨_,rfl,?_⟩;have n0_ := qq.mk (Kd.R_lower ho0 (zw (by repeat (first | (with_reducible first | exact HB.out | apply qj | apply qz | apply qk) | exact HB.out))));have n1_ := qq.mk (zv (by repeat (first | (with_reducible first | exact HB.out | apply qj | apply qz | apply qk) | exact HB.out)) hb);clear HB;have HO103 := n0_;have HB := n1_;clear n0_ n1_;(try clear hb);(try clear hb2);(try clear hk);(try clear hi);(try clear ho0)) | ((with_reducible refine kj (f := 77) rfl ?_);refine goesL_ (some 16) rfl rfl Try.func77 (by kernel_rfl) rfl #[.slice A1 l1.length c1] rfl (by (try simp only [List.map_toArray,List.map_cons,List.map_nil]);first | done | rfl | (simp only [List.length_drop,List.length_take];rfl)) ?_;(with_reducible refine (qqq.calls _ _ l1 t104 _ ?side1 ?side2 A7.out).mono ?_);(case side1 => repeat (first | exact (Kd.C_below HR1.out HB.out) | (with_reducible refine Kd.C_alloc ?_ _) | (with_reducible refine Kd.C_drewN ?_ _) | (with_reducible refine Kd.C_drew ?_)));(case side2 => exact HC1.out);rintro e w11 ⟨v105,rfl,ho0,hb⟩;refine ⟨_,rfl,?_⟩;have n0_ := qq.mk (Kd.R_elder' (by (with_reducible repeat (first | apply Kd.jq | apply Kd.zx | apply Kd.jz));exact HO103.out) (Kd.R_base ho0) hb);have n1_ := qq.mk (Kd.R_lower (Kd.R_new' ho0 (Kd.R_lt (by (with_reducible repeat (first | apply Kd.jq | apply Kd.zx | apply Kd.jz));exact HO103.out))) (zw (by repeat (first | (with_reducible first | exact HB.out | apply qj | apply qz | apply qk) | exact HB.out))));have n2_ := qq.mk (zv (by repeat (first | (with_reducible first | exact HB.out | apply qj | apply qz | apply qk) | exact HB.out)) hb);clear HO103;clear HB;have HO103 := n0_;have HO106 := n1_;have HB := n2_;clear n0_ n1_ n2_;(try clear hb);(try clear hb2);(try clear hk);(try clear hi);(try clear ho0);obtain ⟨Ao13,co13,eo13⟩ := Kd.R_slice HO106.out;subst eo13) | ((with_reducible refine gate_builtin (b := .append) (xs := #[.tmp 14,.tmp 16]) rfl ?_);(try (refine gate_guard (by rfl) ?_;dsimp only));at_builtin;refine Kd.R_append_rows (Kd.int .u8) (w0 := w) w.heap.size rfl (.tmp 14) (.tmp 16) 22 5 (.int .u8 0) 1 rfl Try.underlying22 info5 rfl (by decide) (by omega) v102 t101 t104 _ _ _ (fun k_ => some k_ ≠ (.slice Ao13 t104.length co13 : Value).ownBlock) (fun _ => False) rfl rfl ?aO ?aR (fun _ _ h => h) (fun _ h => h.elim) ?aF ?aB ?aS ?aL ?_;(case aR => repeat (first | exact (Kd.R_reads' HO106.out).2.2 | (with_reducible refine Kd.C_alloc ?_ _) | (with_reducible refine Kd.C_drewN ?_ _) | (with_reducible refine Kd.C_drew ?_)));(case aB => exact (by repeat (first | (with_reducible first | exact HB.out | apply qj | apply qz | apply qk) | exact HB.out)));(case aF => exact (fun k_ hk => Kd.fresh' (Kd.R_lt (by (with_reducible repeat (first | apply Kd.jq | apply Kd.zx | apply Kd.jz));exact HO106.out)) k_ hk));(case aO => exact (by (with_reducible repeat (first | apply Kd.jq | apply Kd.zx | apply Kd.jz));exact Kd.R_mono HO103.out (fun _ hk => hk.2)));(case aS => exact (zw (by repeat (first | (with_reducible first | exact HB.out | apply qj | apply qz | apply qk) | exact HB.out))));(case aL => have := LMc8.out;omega);intro v108 w12 ho hb hg hat;rw [← Ny107.out] at ho;have n0_ := qq.mk (Kd.R_after (ok := (fun _ => True)) (by (with_reducible repeat (first | apply Kd.jq | apply Kd.zx | apply Kd.jz));exact HO106.out) hg hat);have n1_ := qq.mk (hb);have n2_ := qq.mk (ho);clear HO106;clear HB;clear HO103;have HO106 := n0_;have HB := n1_;have HO109 := n2_;clear n0_ n1_ n2_;clear ho hb hg hat;obtain ⟨Ao14,co14,eo14⟩ := Kd.R_slice HO109.out;subst eo14) | ((with_reducible refine kj (f := 77) rfl ?_);refine goesL_ (some 18) rfl rfl Try.func77 (by kernel_rfl) rfl #[.slice Ao14 y107.length co14] rfl (by (try simp only [List.map_toArray,List.map_cons,List.map_nil]);first | done | rfl | (simp only [List.length_drop,List.length_take];rfl)) ?_;(with_reducible refine (qqq.calls _ _ y107 t110 _ ?side1 ?side2 A9.out).mono ?_);(case side1 => repeat (first | exact (Kd.R_reads' HO109.out).2.2 | (with_reducible refine Kd.C_alloc ?_ _) | (with_reducible refine Kd.C_drewN ?_ _) | (with_reducible refine Kd.C_drew ?_)));(case side2 => exact (Kd.R_reads' HO109.out).2.1);rintro e w15 ⟨v111,rfl,ho0,hb⟩;refine ⟨_,rfl,?_⟩;have n0_ := qq.mk (Kd.R_elder' (by (with_reducible repeat (first | apply Kd.jq | apply Kd.zx | apply Kd.jz));exact HO106.out) (Kd.R_base ho0) hb);have n1_ := qq.mk (Kd.R_elder' (by (with_reducible repeat (first | apply Kd.jq | apply Kd.zx | apply Kd.jz));exact HO109.out) (Kd.R_base ho0) hb);have n2_ := qq.mk (Kd.R_lower (Kd.R_new' (Kd.R_new' ho0 (Kd.R_lt (by (with_reducible repeat (first | apply Kd.jq | apply Kd.zx | apply Kd.jz));exact HO106.out))) (Kd.R_lt (by (with_reducible repeat (first | apply Kd.jq | apply Kd.zx | apply Kd.jz));exact HO109.out))) (zw (by repeat (first | (with_reducible first | exact HB.out | apply qj | apply qz | apply qk) | exact HB.out))));have n3_ := qq.mk (zv (by repeat (first | (with_reducible first | exact HB.out | apply qj | apply qz | apply qk) | exact HB.out)) hb);clear HO106;clear HO109;clear HB;have HO106 := n0_;have HO109 := n1_;have HO112 := n2_;have HB := n3_;clear n0_ n1_ n2_ n3_;(try clear hb);(try clear hb2);(try clear hk);(try clear hi);(try clear ho0)))
     go_ret
     exact ⟨_,by first | rfl | (simp [*,kz,jx] <;> rfl),by (with_reducible repeat (first | apply Kd.jq | apply Kd.zx | apply Kd.jz));exact Kd.R_mono HO112.out (fun _ hk => trivial),by repeat (first | (with_reducible first | exact HB.out | apply qj | apply qz | apply qk) | exact HB.out)⟩
    ·rw [if_neg c8] at H
     exact absurd H (by simp)
end Go.Proofs.Ytipdkendfcopiaa.Pr
namespace Go.Proofs.Ytipdkendfcopiaa.Pr
open Go.RowKit Go.Proofs.YtipdkendfcopiaaW.PrintWords Go.Proofs.YtipdkendfcopiaaW.PrintLast Go.Proofs.YtipdkendfcopiaaW.PrintMore
attribute [local go_sem] max2_int min2_int max_two min_two max_three min_three max_four min_four
set_option linter.unusedVariables false
set_option linter.unusedSimpArgs false
mutual
def qzw.j0 : Nat → ByteArray → Bool → Option (Bool)
 | 0,_,_ => none
 | k + 1,x0,x17 => if x17 = true then (some false) else (qzw.l0 k x0 (x0.size : Int) 0)
def qzw.l0 : Nat → ByteArray → Int → Int → Option (Bool)
 | 0,_,_,_ => none
 | k + 1,x0,x19,x20 => if x20 < x19 then (if 0 ≤ x20 then (if x20 < (x0.size : Int) then (if (bt x0 x20) < 32 then (some false) else (if (bt x0 x20) > 126 then (some false) else (qzw.l0 k x0 x19 (wrap64 (x20 + 1))))) else (none)) else (none)) else (some true)
end
def qzw.f (k : Nat) (a0 : ByteArray) (a1 : Int) (a2 : Int) : Option (Bool) := if (a0.size : Int) < a1 then (qzw.j0 k a0 true) else (qzw.j0 k a0 (decide ((a0.size : Int) > a2)))
set_option maxHeartbeats 8000000 in
set_option maxRecDepth 100000 in
theorem qzw.calls (k : Nat) (a0 : ByteArray) (a1 : Int) (a2 : Int) (r : Bool) (w : World) (h : qzw.f k a0 a1 a2 = some r) :
  Calls Try.prog 72 #[.string a0,.int .i64 a1,.int .i64 a2] w fun e w' => e = .returned (.bool r) ∧ Drawn0 w w' := by
 have H : (if (a0.size : Int) < a1 then (qzw.j0 k a0 true) else (qzw.j0 k a0 (decide ((a0.size : Int) > a2)))) = some r := h
 clear h
 have HC4 := qq.mk H
 clear H
 go_enter Try.func72,Try.ntmps72
 go_upto_region 1 with (fail)
 go_cut [17] (fun v17 wc => ∃ (kq : Nat) (x17_3 : Bool),v17 = .bool x17_3 ∧ qq (qzw.j0 kq a0 x17_3 = some r) ∧ qq (kq ≤ k) ∧ Drawn0 w wc)
 case first =>
  have H := HC4.out
  clear HC4
  by_cases c5 : (a0.size : Int) < a1
  ·rw [if_pos c5] at H
   have c5b0 : decide ((a0.size : Int) < a1) = true := decide_eq_true c5
   clear c5
   (first | rw [c5b0] | (simp only [i64_w,i32_w];rw [c5b0]) | skip)
   have H' := qq.mk H
   clear H
   go_wp2
   go_meet
   case rel => exact ⟨_,(true),(by first | rfl | (simp;done) | (simp [*];done)),H',⟨by first | omega | exact Nat.le_refl _⟩,by repeat (first | exact Drawn0.refl _ | apply Drawn0.step)⟩
  ·rw [if_neg c5] at H
   have c5b0 : decide ((a0.size : Int) < a1) = false := decide_eq_false c5
   clear c5
   (first | rw [c5b0] | (simp only [i64_w,i32_w];rw [c5b0]) | skip)
   have H' := qq.mk H
   clear H
   go_wp2
   go_meet
   case rel => exact ⟨_,(decide ((a0.size : Int) > a2)),(by first | rfl | (simp;done) | (simp [*];done)),H',⟨by first | omega | exact Nat.le_refl _⟩,by repeat (first | exact Drawn0.refl _ | apply Drawn0.step)⟩
 case rest =>
  clear HC4
  try clear p2
  try clear c5
  try clear c5b0
  obtain ⟨kq,x17_3,rfl,HA,HJ3,⟨mc3,rfl⟩⟩ := hcut
  cases kq with
  | zero => exact absurd HA.out (by simp [qzw.j0])
  | succ kj3 =>
   have H := HA.out
   clear HA
   simp only [qzw.j0] at H
   by_cases c6 : x17_3 = true
   ·subst c6
    have H1 : (some false) = some r := by rw [if_pos rfl] at H;exact H
    clear H
    have H := H1
    clear H1
    obtain rfl := Option.some.inj H
    go_wp2
    go_ret
    exact ⟨by first | rfl | (simp;done) | (simp [*];done),by repeat (first | exact Drawn0.refl _ | apply Drawn0.step)⟩
   ·replace c6 := Bool.eq_false_iff.mpr c6
    subst c6
    have H1 : (qzw.l0 kj3 a0 (a0.size : Int) 0) = some r := by rw [if_neg (show ¬ (false = true) by decide)] at H;exact H
    clear H
    have H := H1
    clear H1
    have H' := qq.mk H
    clear H
    go_wp2
    go_loopg [20] kj3 (fun kq v20 w' => ∃ (x20_2 : Int),v20 = .int .i64 x20_2 ∧ qq (qzw.l0 kq a0 (a0.size : Int) x20_2 = some r) ∧ qq (kq ≤ kj3) ∧ Drawn0 w w')
    case atStart => exact ⟨(0),(by first | rfl | (simp;done) | (simp [*];done)),H',⟨Nat.le_refl _⟩,by repeat (first | exact Drawn0.refl _ | apply Drawn0.step)⟩
    case round =>
     clear H'
     try clear p2
     try clear c3
     try clear c5
     try clear c5b0
     try clear c6
     try clear p2
     obtain ⟨x20_2,rfl,HA,HK2,⟨m2,rfl⟩⟩ := hrel
     cases gk with
     | zero => exact absurd HA.out (by simp [qzw.l0])
     | succ k2 =>
      have H := HA.out
      clear HA
      simp only [qzw.l0] at H
      by_cases c7 : x20_2 < (a0.size : Int)
      ·rw [if_pos c7] at H
       have c7b0 : decide (x20_2 < (a0.size : Int)) = true := decide_eq_true c7
       clear c7
       by_cases c8 : 0 ≤ x20_2
       ·rw [if_pos c8] at H
        have c8b0 : decide (0 ≤ x20_2) = true := decide_eq_true c8
        clear c8
        by_cases c9 : x20_2 < (a0.size : Int)
        ·rw [if_pos c9] at H
         have c9b0 : decide (x20_2 < (a0.size : Int)) = true := decide_eq_true c9
         clear c9
         by_cases c11 : (bt a0 x20_2) < 32
         ·rw [if_pos c11] at H
          have c11b0 : decide ((bt a0 x20_2) < 32) = true := decide_eq_true c11
          clear c11
          obtain rfl := Option.some.inj H
          have p10 : 0 ≤ (x20_2 : Int) := of_decide_eq_true (by assumption)
          have q10 : x20_2 < (a0.size : Int) := of_decide_eq_true (by assumption)
          have hx10 := bt_at a0 x20_2
          replace p10 := eq_true p10
          replace q10 := eq_true q10
          go_wp2
          go_ret
          exact ⟨by first | rfl | (simp;done) | (simp [*];done),by repeat (first | exact Drawn0.refl _ | apply Drawn0.step)⟩
         ·rw [if_neg c11] at H
          have c11b0 : decide ((bt a0 x20_2) < 32) = false := decide_eq_false c11
          clear c11
          by_cases c13 : (bt a0 x20_2) > 126
          ·rw [if_pos c13] at H
           have c13b0 : decide (126 < (bt a0 x20_2)) = true := decide_eq_true c13
           clear c13
           obtain rfl := Option.some.inj H
           have p10 : 0 ≤ (x20_2 : Int) := of_decide_eq_true (by assumption)
           have q10 : x20_2 < (a0.size : Int) := of_decide_eq_true (by assumption)
           have hx10 := bt_at a0 x20_2
           replace p10 := eq_true p10
           replace q10 := eq_true q10
           have p12 : 0 ≤ (x20_2 : Int) := of_decide_eq_true (by assumption)
           have q12 : x20_2 < (a0.size : Int) := of_decide_eq_true (by assumption)
           have hx12 := bt_at a0 x20_2
           replace p12 := eq_true p12
           replace q12 := eq_true q12
           go_wp2
           go_ret
           exact ⟨by first | rfl | (simp;done) | (simp [*];done),by repeat (first | exact Drawn0.refl _ | apply Drawn0.step)⟩
          ·rw [if_neg c13] at H
           have c13b0 : decide (126 < (bt a0 x20_2)) = false := decide_eq_false c13
           clear c13
           have H' := qq.mk H
           clear H
           have p10 : 0 ≤ (x20_2 : Int) := of_decide_eq_true (by assumption)
           have q10 : x20_2 < (a0.size : Int) := of_decide_eq_true (by assumption)
           have hx10 := bt_at a0 x20_2
           replace p10 := eq_true p10
           replace q10 := eq_true q10
           have p12 : 0 ≤ (x20_2 : Int) := of_decide_eq_true (by assumption)
           have q12 : x20_2 < (a0.size : Int) := of_decide_eq_true (by assumption)
           have hx12 := bt_at a0 x20_2
           replace p12 := eq_true p12
           replace q12 := eq_true q12
           go_wp2
           go_roundg k2
           case measure => have := HJ3.out;have := HK2.out;omega
           case rel => exact ⟨(wrap64 (x20_2 + 1)),(by first | rfl | (simp;done) | (simp [*];done)),H',⟨by have := HJ3.out;have := HK2.out;omega⟩,by repeat (first | exact Drawn0.refl _ | apply Drawn0.step)⟩
        ·rw [if_neg c9] at H
         exact absurd H (by simp)
       ·rw [if_neg c8] at H
        exact absurd H (by simp)
      ·rw [if_neg c7] at H
       have c7b0 : decide (x20_2 < (a0.size : Int)) = false := decide_eq_false c7
       clear c7
       obtain rfl := Option.some.inj H
       go_wp2
       go_ret
       exact ⟨by first | rfl | (simp;done) | (simp [*];done),by repeat (first | exact Drawn0.refl _ | apply Drawn0.step)⟩
def qqz.j0 : Nat → Bool → Int → ByteArray → ByteArray → List Int → List Int → Option (Bool)
 | 0,_,_,_,_,_,_ => none
 | k + 1,x16,x102000,x102001,x102002,x102003,x102004 => if x16 = true then (some false) else (if (x102004.length : Int) = 0 then ((qzw.f k x102002 0 200).bind fun t103 => (if t103 = true then (some (decide ((x102003.length : Int) ≤ 20))) else (some false))) else (if (x102004.length : Int) = 16 then (if x102002.toList = ([] : List UInt8) then (some ((x102003.length : Int) == 0)) else (some false)) else (some false)))
def qqz.f (k : Nat) (a0_0 : Int) (a0_1 : ByteArray) (a0_2 : ByteArray) (l0_3 : List Int) (l0_4 : List Int) : Option (Bool) := if a0_0 < 0 then (qqz.j0 k true a0_0 a0_1 a0_2 l0_3 l0_4) else (if a0_0 > 100000000000 then (qqz.j0 k true a0_0 a0_1 a0_2 l0_3 l0_4) else ((qzw.f k a0_1 0 60).bind fun t102 => (qqz.j0 k (!t102) a0_0 a0_1 a0_2 l0_3 l0_4)))
set_option maxHeartbeats 8000000 in
set_option maxRecDepth 100000 in
theorem qqz.calls (k : Nat) (a0_0 : Int) (a0_1 : ByteArray) (a0_2 : ByteArray) (A0_3 : Option Addr) (c0_3 : Nat) (l0_3 : List Int) (A0_4 : Option Addr) (c0_4 : Nat) (l0_4 : List Int) (r : Bool) (w : World) (hr0_3 : Kd.C (Kd.int .u8) w A0_3 l0_3.length l0_3) (hc0_3 : l0_3.length ≤ c0_3) (hr0_4 : Kd.C (Kd.int .u8) w A0_4 l0_4.length l0_4) (hc0_4 : l0_4.length ≤ c0_4) (h : qqz.f k a0_0 a0_1 a0_2 l0_3 l0_4 = some r) :
  Calls Try.prog 20 #[.agg #[.int .i64 a0_0,.string a0_1,.string a0_2,.slice A0_3 l0_3.length c0_3,.slice A0_4 l0_4.length c0_4]] w fun e w' => e = .returned (.bool r) ∧ Below w.heap.size w w' := by
 have hu27 := Try.underlying27
 have HR0_3 := qq.mk hr0_3
 have HC0_3 := qq.mk hc0_3
 clear hr0_3 hc0_3
 have HR0_4 := qq.mk hr0_4
 have HC0_4 := qq.mk hc0_4
 clear hr0_4 hc0_4
 have HB := qq.mk (Below.refl w.heap.size w)
 have H : (if a0_0 < 0 then (qqz.j0 k true a0_0 a0_1 a0_2 l0_3 l0_4) else (if a0_0 > 100000000000 then (qqz.j0 k true a0_0 a0_1 a0_2 l0_3 l0_4) else ((qzw.f k a0_1 0 60).bind fun t102 => (qqz.j0 k (!t102) a0_0 a0_1 a0_2 l0_3 l0_4)))) = some r := h
 clear h
 have HC2 := qq.mk H
 clear H
 go_enter Try.func20,Try.ntmps20
 go_upto_region 1 with (first | ((with_reducible refine gate_dst (N := 1) rfl ?_);(try (refine gate_guard (by rfl) ?_;dsimp only));refine box_event ?hg (N := 1) ?hd (cs := #[.int .i64 a0_0,.string a0_1,.string a0_2,.slice A0_3 l0_3.length c0_3,.slice A0_4 l0_4.length c0_4]) (t := 27) ?hr ?_;(case hd => rfl);(case hg => rfl);(case hr => first | (go_simp;done) | (go_simp;rfl));intro gb101 hg w3 hbox hb;have n0_ := qq.mk (zv (by repeat (first | (with_reducible first | exact HB.out | apply qj | apply qz | apply qk) | exact HB.out)) hb);have n1_ := qq.mk (hbox);have n2_ := qq.mk ((by rw [hg];exact (zw (by repeat (first | (with_reducible first | exact HB.out | apply qj | apply qz | apply qk) | exact HB.out))) : w.heap.size ≤ gb101));have n3_ := qq.mk ((by rw [hg];exact (zw (by repeat (first | (with_reducible first | exact HB.out | apply qj | apply qz | apply qk) | exact HB.out))) : w.heap.size ≤ gb101));clear HB;have HB := n0_;have BK101 := n1_;have GW101 := n2_;have GE101 := n3_;clear n0_ n1_ n2_ n3_;clear hb hbox hg))
 (try simp only [Act.put,List.setIfInBounds_toArray,List.set_cons_zero,List.set_cons_succ])
 go_cut [16] (fun v16 wc => ∃ (kq : Nat) (x16_1 : Bool),v16 = .bool x16_1 ∧ qq (qqz.j0 kq x16_1 a0_0 a0_1 a0_2 l0_3 l0_4 = some r) ∧ qq (kq ≤ k) ∧ qq (wc.heap[gb101]? = some (.cells #[.int .i64 a0_0,.string a0_1,.string a0_2,(.slice A0_3 l0_3.length c0_3),(.slice A0_4 l0_4.length c0_4)] 27 (0,0))) ∧ qq (Below w.heap.size w wc))
 case first =>
  have H := HC2.out
  clear HC2
  by_cases c4 : a0_0 < 0
  ·rw [if_pos c4] at H
   have c4b0 : decide (a0_0 < 0) = true := decide_eq_true c4
   clear c4
   (first | rw [c4b0] | (simp only [i64_w,i32_w];rw [c4b0]) | skip)
   have H' := qq.mk H
   clear H
   have hcz5_0 : w3.cell? ⟨gb101,0,none⟩ = some (.int .i64 a0_0) := (qw BK101.out 0).trans rfl
   have hcz5_1 : w3.cell? ⟨gb101,1,none⟩ = some (.string a0_1) := (qw BK101.out 1).trans rfl
   have hcz5_2 : w3.cell? ⟨gb101,2,none⟩ = some (.string a0_2) := (qw BK101.out 2).trans rfl
   have hcz5_3 : w3.cell? ⟨gb101,3,none⟩ = some (.slice A0_3 l0_3.length c0_3) := (qw BK101.out 3).trans rfl
   have hcz5_4 : w3.cell? ⟨gb101,4,none⟩ = some (.slice A0_4 l0_4.length c0_4) := (qw BK101.out 4).trans rfl
   have hfz5_0 := qv BK101.out 0
   have hfz5_1 := qv BK101.out 1
   have hfz5_2 := qv BK101.out 2
   have hfz5_3 := qv BK101.out 3
   have hfz5_4 := qv BK101.out 4
   go_wp2
   go_meet
   case rel => exact ⟨_,(true),(by first | rfl | (simp;done) | (simp [*];done) | (generalize ByteArray.toList _ = l_;cases l_ <;> first | rfl | (simp;done))),H',⟨by first | omega | exact Nat.le_refl _⟩,⟨by (with_reducible repeat (first | refine zz ?_ _ | refine zj ?_ | refine zq ?_ _));exact BK101.out⟩,⟨by repeat (first | (with_reducible first | exact HB.out | apply qj | apply qz | apply qk | refine qx ?_ GE101.out) | exact HB.out)⟩⟩
  ·rw [if_neg c4] at H
   have c4b0 : decide (a0_0 < 0) = false := decide_eq_false c4
   clear c4
   (first | rw [c4b0] | (simp only [i64_w,i32_w];rw [c4b0]) | skip)
   by_cases c6 : a0_0 > 100000000000
   ·rw [if_pos c6] at H
    have c6b0 : decide (100000000000 < a0_0) = true := decide_eq_true c6
    clear c6
    have H' := qq.mk H
    clear H
    have hcz7_0 : w3.cell? ⟨gb101,0,none⟩ = some (.int .i64 a0_0) := (qw BK101.out 0).trans rfl
    have hcz7_1 : w3.cell? ⟨gb101,1,none⟩ = some (.string a0_1) := (qw BK101.out 1).trans rfl
    have hcz7_2 : w3.cell? ⟨gb101,2,none⟩ = some (.string a0_2) := (qw BK101.out 2).trans rfl
    have hcz7_3 : w3.cell? ⟨gb101,3,none⟩ = some (.slice A0_3 l0_3.length c0_3) := (qw BK101.out 3).trans rfl
    have hcz7_4 : w3.cell? ⟨gb101,4,none⟩ = some (.slice A0_4 l0_4.length c0_4) := (qw BK101.out 4).trans rfl
    have hfz7_0 := qv BK101.out 0
    have hfz7_1 := qv BK101.out 1
    have hfz7_2 := qv BK101.out 2
    have hfz7_3 := qv BK101.out 3
    have hfz7_4 := qv BK101.out 4
    go_wp2
    go_meet
    case rel => exact ⟨_,(true),(by first | rfl | (simp;done) | (simp [*];done) | (generalize ByteArray.toList _ = l_;cases l_ <;> first | rfl | (simp;done))),H',⟨by first | omega | exact Nat.le_refl _⟩,⟨by (with_reducible repeat (first | refine zz ?_ _ | refine zj ?_ | refine zq ?_ _));exact BK101.out⟩,⟨by repeat (first | (with_reducible first | exact HB.out | apply qj | apply qz | apply qk | refine qx ?_ GE101.out) | exact HB.out)⟩⟩
   ·rw [if_neg c6] at H
    have c6b0 : decide (100000000000 < a0_0) = false := decide_eq_false c6
    clear c6
    replace H := Option.bind_eq_some_iff.mp H
    obtain ⟨t102,A80,H⟩ := H
    replace H : (qqz.j0 k (!t102) a0_0 a0_1 a0_2 l0_3 l0_4) = some r := H
    have A8 := qq.mk A80
    clear A80
    have H' := qq.mk H
    clear H
    have hcz9_0 : w3.cell? ⟨gb101,0,none⟩ = some (.int .i64 a0_0) := (qw BK101.out 0).trans rfl
    have hcz9_1 : w3.cell? ⟨gb101,1,none⟩ = some (.string a0_1) := (qw BK101.out 1).trans rfl
    have hcz9_2 : w3.cell? ⟨gb101,2,none⟩ = some (.string a0_2) := (qw BK101.out 2).trans rfl
    have hcz9_3 : w3.cell? ⟨gb101,3,none⟩ = some (.slice A0_3 l0_3.length c0_3) := (qw BK101.out 3).trans rfl
    have hcz9_4 : w3.cell? ⟨gb101,4,none⟩ = some (.slice A0_4 l0_4.length c0_4) := (qw BK101.out 4).trans rfl
    have hfz9_0 := qv BK101.out 0
    have hfz9_1 := qv BK101.out 1
    have hfz9_2 := qv BK101.out 2
    have hfz9_3 := qv BK101.out 3
    have hfz9_4 := qv BK101.out 4
    go_wp2_with (first | (go_at_call 72;(with_reducible refine (qzw.calls k a0_1 0 60 t102 _ A8.out).mono ?_);rintro e w' ⟨rfl,⟨nd,rfl⟩⟩))
    go_meet
    case rel => exact ⟨_,(!t102),(by first | rfl | (simp;done) | (simp [*];done) | (generalize ByteArray.toList _ = l_;cases l_ <;> first | rfl | (simp;done))),H',⟨by first | omega | exact Nat.le_refl _⟩,⟨by (with_reducible repeat (first | refine zz ?_ _ | refine zj ?_ | refine zq ?_ _));exact BK101.out⟩,⟨by repeat (first | (with_reducible first | exact HB.out | apply qj | apply qz | apply qk | refine qx ?_ GE101.out) | exact HB.out)⟩⟩
 case rest =>
  clear HC2
  try clear c2
  try clear p2
  try clear c4
  try clear c4b0
  try clear c6
  try clear c6b0
  try clear hcz5_0
  try clear hcz5_1
  try clear hcz5_2
  try clear hcz5_3
  try clear hcz5_4
  try clear hcz7_0
  try clear hcz7_1
  try clear hcz7_2
  try clear hcz7_3
  try clear hcz7_4
  try clear hcz9_0
  try clear hcz9_1
  try clear hcz9_2
  try clear hcz9_3
  try clear hcz9_4
  try clear hfz5_0
  try clear hfz5_1
  try clear hfz5_2
  try clear hfz5_3
  try clear hfz5_4
  try clear hfz7_0
  try clear hfz7_1
  try clear hfz7_2
  try clear hfz7_3
  try clear hfz7_4
  try clear hfz9_0
  try clear hfz9_1
  try clear hfz9_2
  try clear hfz9_3
  try clear hfz9_4
  obtain ⟨kq,x16_1,rfl,HA,HJ1,BK101,HB⟩ := hcut
  cases kq with
  | zero => exact absurd HA.out (by simp [qqz.j0])
  | succ kj1 =>
   have H := HA.out
   clear HA
   simp only [qqz.j0] at H
   by_cases c10 : x16_1 = true
   ·subst c10
    have H1 : (some false) = some r := by rw [if_pos rfl] at H;exact H
    clear H
    have H := H1
    clear H1
    obtain rfl := Option.some.inj H
    go_wp2
    go_ret
    exact ⟨by first | rfl | (simp [*,kz,jx] <;> rfl),by repeat (first | (with_reducible first | exact HB.out | apply qj | apply qz | apply qk | refine qx ?_ GE101.out) | exact HB.out)⟩
   ·replace c10 := Bool.eq_false_iff.mpr c10
    subst c10
    have H1 : (if (l0_4.length : Int) = 0 then ((qzw.f kj1 a0_2 0 200).bind fun t103 => (if t103 = true then (some (decide ((l0_3.length : Int) ≤ 20))) else (some false))) else (if (l0_4.length : Int) = 16 then (if a0_2.toList = ([] : List UInt8) then (some ((l0_3.length : Int) == 0)) else (some false)) else (some false))) = some r := by rw [if_neg (show ¬ (false = true) by decide)] at H;exact H
    clear H
    have H := H1
    clear H1
    by_cases c11 : (l0_4.length : Int) = 0
    ·rw [if_pos c11] at H
     have c11b0 : ((l0_4.length : Int) == 0) = true := beq_iff_eq.mpr c11
     have c11b1 : ((l0_4.length : Int) != 0) = false := bne_eq_false_iff_eq.mpr c11
     clear c11
     replace H := Option.bind_eq_some_iff.mp H
     obtain ⟨t103,A120,H⟩ := H
     replace H : (if t103 = true then (some (decide ((l0_3.length : Int) ≤ 20))) else (some false)) = some r := H
     have A12 := qq.mk A120
     clear A120
     by_cases c13 : t103 = true
     ·subst c13
      have H1 : (some (decide ((l0_3.length : Int) ≤ 20))) = some r := by rw [if_pos rfl] at H;exact H
      clear H
      have H := H1
      clear H1
      obtain rfl := Option.some.inj H
      have hcz14_0 : wc.cell? ⟨gb101,0,none⟩ = some (.int .i64 a0_0) := (qw BK101.out 0).trans rfl
      have hcz14_1 : wc.cell? ⟨gb101,1,none⟩ = some (.string a0_1) := (qw BK101.out 1).trans rfl
      have hcz14_2 : wc.cell? ⟨gb101,2,none⟩ = some (.string a0_2) := (qw BK101.out 2).trans rfl
      have hcz14_3 : wc.cell? ⟨gb101,3,none⟩ = some (.slice A0_3 l0_3.length c0_3) := (qw BK101.out 3).trans rfl
      have hcz14_4 : wc.cell? ⟨gb101,4,none⟩ = some (.slice A0_4 l0_4.length c0_4) := (qw BK101.out 4).trans rfl
      have hfz14_0 := qv BK101.out 0
      have hfz14_1 := qv BK101.out 1
      have hfz14_2 := qv BK101.out 2
      have hfz14_3 := qv BK101.out 3
      have hfz14_4 := qv BK101.out 4
      go_wp2_with (first | ((with_reducible refine kj (f := 72) rfl ?_);refine goesL_ (some 23) rfl rfl Try.func72 (by kernel_rfl) rfl #[.string a0_2,.int .i64 0,.int .i64 200] rfl (by (try simp only [List.map_toArray,List.map_cons,List.map_nil]);first | done | rfl | (simp only [List.length_drop,List.length_take];rfl)) ?_;(with_reducible refine (qzw.calls kj1 a0_2 0 200 true _ A12.out).mono ?_);rintro e w' ⟨rfl,⟨nd,rfl⟩⟩;refine ⟨_,rfl,?_⟩))
      go_ret
      exact ⟨by first | rfl | (simp [*,kz,jx] <;> rfl),by repeat (first | (with_reducible first | exact HB.out | apply qj | apply qz | apply qk | refine qx ?_ GE101.out) | exact HB.out)⟩
     ·replace c13 := Bool.eq_false_iff.mpr c13
      subst c13
      have H1 : (some false) = some r := by rw [if_neg (show ¬ (false = true) by decide)] at H;exact H
      clear H
      have H := H1
      clear H1
      obtain rfl := Option.some.inj H
      have hcz15_0 : wc.cell? ⟨gb101,0,none⟩ = some (.int .i64 a0_0) := (qw BK101.out 0).trans rfl
      have hcz15_1 : wc.cell? ⟨gb101,1,none⟩ = some (.string a0_1) := (qw BK101.out 1).trans rfl
      have hcz15_2 : wc.cell? ⟨gb101,2,none⟩ = some (.string a0_2) := (qw BK101.out 2).trans rfl
      have hcz15_3 : wc.cell? ⟨gb101,3,none⟩ = some (.slice A0_3 l0_3.length c0_3) := (qw BK101.out 3).trans rfl
      have hcz15_4 : wc.cell? ⟨gb101,4,none⟩ = some (.slice A0_4 l0_4.length c0_4) := (qw BK101.out 4).trans rfl
      have hfz15_0 := qv BK101.out 0
      have hfz15_1 := qv BK101.out 1
      have hfz15_2 := qv BK101.out 2
      have hfz15_3 := qv BK101.out 3
      have hfz15_4 := qv BK101.out 4
      go_wp2_with (first | ((with_reducible refine kj (f := 72) rfl ?_);refine goesL_ (some 23) rfl rfl Try.func72 (by kernel_rfl) rfl #[.string a0_2,.int .i64 0,.int .i64 200] rfl (by (try simp only [List.map_toArray,List.map_cons,List.map_nil]);first | done | rfl | (simp only [List.length_drop,List.length_take];rfl)) ?_;(with_reducible refine (qzw.calls kj1 a0_2 0 200 false _ A12.out).mono ?_);rintro e w' ⟨rfl,⟨nd,rfl⟩⟩;refine ⟨_,rfl,?_⟩))
      go_ret
      exact ⟨by first | rfl | (simp [*,kz,jx] <;> rfl),by repeat (first | (with_reducible first | exact HB.out | apply qj | apply qz | apply qk | refine qx ?_ GE101.out) | exact HB.out)⟩
    ·rw [if_neg c11] at H
     have c11b0 : ((l0_4.length : Int) == 0) = false := beq_eq_false_iff_ne.mpr c11
     have c11b1 : ((l0_4.length : Int) != 0) = true := bne_iff_ne.mpr c11
     have c11b2 : ¬ (l0_4 = []) := fun h_ => c11 (by rw [h_];rfl)
     by_cases c16 : (l0_4.length : Int) = 16
     ·rw [if_pos c16] at H
      have c16b0 : ((l0_4.length : Int) == 16) = true := beq_iff_eq.mpr c16
      have c16b1 : ((l0_4.length : Int) != 16) = false := bne_eq_false_iff_eq.mpr c16
      clear c16
      by_cases c17 : a0_2.toList = ([] : List UInt8)
      ·rw [if_pos c17] at H
       have c17b0 : (a0_2.toList == ([] : List UInt8)) = true := beq_iff_eq.mpr c17
       have c17b1 : (a0_2.toList != ([] : List UInt8)) = false := bne_eq_false_iff_eq.mpr c17
       clear c17
       obtain rfl := Option.some.inj H
       have hcz18_0 : wc.cell? ⟨gb101,0,none⟩ = some (.int .i64 a0_0) := (qw BK101.out 0).trans rfl
       have hcz18_1 : wc.cell? ⟨gb101,1,none⟩ = some (.string a0_1) := (qw BK101.out 1).trans rfl
       have hcz18_2 : wc.cell? ⟨gb101,2,none⟩ = some (.string a0_2) := (qw BK101.out 2).trans rfl
       have hcz18_3 : wc.cell? ⟨gb101,3,none⟩ = some (.slice A0_3 l0_3.length c0_3) := (qw BK101.out 3).trans rfl
       have hcz18_4 : wc.cell? ⟨gb101,4,none⟩ = some (.slice A0_4 l0_4.length c0_4) := (qw BK101.out 4).trans rfl
       have hfz18_0 := qv BK101.out 0
       have hfz18_1 := qv BK101.out 1
       have hfz18_2 := qv BK101.out 2
       have hfz18_3 := qv BK101.out 3
       have hfz18_4 := qv BK101.out 4
       go_wp2
       go_ret
       exact ⟨by first | rfl | (simp [*,kz,jx] <;> rfl),by repeat (first | (with_reducible first | exact HB.out | apply qj | apply qz | apply qk | refine qx ?_ GE101.out) | exact HB.out)⟩
      ·rw [if_neg c17] at H
       have c17b0 : (a0_2.toList == ([] : List UInt8)) = false := beq_eq_false_iff_ne.mpr c17
       have c17b1 : (a0_2.toList != ([] : List UInt8)) = true := bne_iff_ne.mpr c17
       obtain rfl := Option.some.inj H
       have hcz19_0 : wc.cell? ⟨gb101,0,none⟩ = some (.int .i64 a0_0) := (qw BK101.out 0).trans rfl
       have hcz19_1 : wc.cell? ⟨gb101,1,none⟩ = some (.string a0_1) := (qw BK101.out 1).trans rfl
       have hcz19_2 : wc.cell? ⟨gb101,2,none⟩ = some (.string a0_2) := (qw BK101.out 2).trans rfl
       have hcz19_3 : wc.cell? ⟨gb101,3,none⟩ = some (.slice A0_3 l0_3.length c0_3) := (qw BK101.out 3).trans rfl
       have hcz19_4 : wc.cell? ⟨gb101,4,none⟩ = some (.slice A0_4 l0_4.length c0_4) := (qw BK101.out 4).trans rfl
       have hfz19_0 := qv BK101.out 0
       have hfz19_1 := qv BK101.out 1
       have hfz19_2 := qv BK101.out 2
       have hfz19_3 := qv BK101.out 3
       have hfz19_4 := qv BK101.out 4
       go_wp2
       go_ret
       exact ⟨by first | rfl | (simp [*,kz,jx] <;> rfl),by repeat (first | (with_reducible first | exact HB.out | apply qj | apply qz | apply qk | refine qx ?_ GE101.out) | exact HB.out)⟩
     ·rw [if_neg c16] at H
      have c16b0 : ((l0_4.length : Int) == 16) = false := beq_eq_false_iff_ne.mpr c16
      have c16b1 : ((l0_4.length : Int) != 16) = true := bne_iff_ne.mpr c16
      obtain rfl := Option.some.inj H
      have hcz20_0 : wc.cell? ⟨gb101,0,none⟩ = some (.int .i64 a0_0) := (qw BK101.out 0).trans rfl
      have hcz20_1 : wc.cell? ⟨gb101,1,none⟩ = some (.string a0_1) := (qw BK101.out 1).trans rfl
      have hcz20_2 : wc.cell? ⟨gb101,2,none⟩ = some (.string a0_2) := (qw BK101.out 2).trans rfl
      have hcz20_3 : wc.cell? ⟨gb101,3,none⟩ = some (.slice A0_3 l0_3.length c0_3) := (qw BK101.out 3).trans rfl
      have hcz20_4 : wc.cell? ⟨gb101,4,none⟩ = some (.slice A0_4 l0_4.length c0_4) := (qw BK101.out 4).trans rfl
      have hfz20_0 := qv BK101.out 0
      have hfz20_1 := qv BK101.out 1
      have hfz20_2 := qv BK101.out 2
      have hfz20_3 := qv BK101.out 3
      have hfz20_4 := qv BK101.out 4
      go_wp2
      go_ret
      exact ⟨by first | rfl | (simp [*,kz,jx] <;> rfl),by repeat (first | (with_reducible first | exact HB.out | apply qj | apply qz | apply qk | refine qx ?_ GE101.out) | exact HB.out)⟩
end Go.Proofs.Ytipdkendfcopiaa.Pr
