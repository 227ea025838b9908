/- Printed texts, walks and plain facts that the law FnNames leans on, joined. -/
import Derived.Test.YtccbjchlcelkgaaFullFnNamesA
import Derived.ProofKit
import Derived.OpenShut
import Derived.ShutString
import Derived.ChangeOld
import Derived.Deep.Slices
import Derived.Lib.SmallJoins
import Derived.Test.YtccbjchlcelkgaaProg
import Derived.Below
import Derived.Deep.Draws
import Derived.Deep.AppendLies
import Derived.Maps.AppendAt
import Derived.OwnWalk
import Derived.Laws.BytesArg
import Derived.Laws.MakeOwn
import Derived.Laws.OwnMore
import Derived.Deep.OwnRows
import Derived.Tactics
import Derived.Lib.ConvBytes
import Derived.Laws.Slices
import Derived.WalkKit
import Derived.KernelRfl
import Derived.RowKit3
import Derived.Deep.LoopGhost
import Derived.Deep.QuietTactic
import Derived.BigQuiet
import Derived.WideLaws
import Derived.Deep.DeepCutAuto
import Derived.Deep.CutBlock
import Derived.Deep.RegionHeld3
import Derived.Laws.Rows
import Derived.Lib.AppendStr
import Derived.ArgAppend
import Derived.Laws.IdiomCopy
import Derived.OrdersHeld
import Derived.Laws.BitsLemmas
import Derived.RowKit
import Derived.Laws.Cover1
import Derived.Shelf.Strings.Builder1
import Derived.Shelf.Strings.Builder2
import Derived.Lib.Bytealg
import Derived.WalkSpells
import Derived.Shelf.Abstract
namespace Go.Proofs.Ytccbjchlcelkgaa.Read
open Go.RowKit Go.ChangeShapes Go.WideShapes Go.Deep Go.Proofs.YtccbjchlcelkgaaW.PrintWords
set_option linter.unusedVariables false
def Tells (P : Program) (t : TypeId) {α : Type} (d : Kd α) (ok : α → Prop) : Prop :=
 P.cellsOf t = d.sz ∧ ∀ (H : Type) (enc : TypeId × Value → H) (w : World) (sp : Nat → Bool) (fuel : Nat) (cs : List Value) (x : DataW H × List MemPlace),
  DataW.trod enc P w 0 sp true fuel t cs = some x → ∃ a : α,d.K w a cs ∧ ok a
theorem tells_int {P : Program} {t : TypeId} {k : IntKind} (ht : P.underlying t = some (.int k)) (hc : P.cellsOf t = 1) : Tells P t (Kd.int k) (fun n => (Lit.int k n).wf = true) :=
 ⟨hc,fun H enc w sp fuel cs x h => by
  obtain ⟨n,rfl,_,hw⟩ := DataW.trod_int ht h
  exact ⟨n,rfl,hw⟩⟩
theorem tells_slice {P : Program} {t e : TypeId} {α : Type} {d : Kd α} {ok : α → Prop} (ht : P.underlying t = some (.slice e)) (hc : P.cellsOf t = 1) (he : Tells P e d ok) :
  Tells P t (Kd.slice e d) (fun xs => xs.length ≤ 9223372036854775807 ∧ ∀ x ∈ xs,ok x) := by
 refine ⟨hc,fun H enc w sp fuel cs x h => ?_⟩
 rcases open_slice ht h with ⟨rfl,_⟩ | ⟨a,len,cap,m,n,D,Pl,rfl,_,hl,hm,hmm,_,hx⟩
 ·exact ⟨[],⟨none,0,rfl,by simp,Kd.C_nil d w⟩,by simp,by simp⟩
 ·have hlm : len ≤ m := by rw [hmm];split <;> omega
  have hmax : len ≤ 9223372036854775807 := by unfold maxLen at hm;omega
  have key : ∀ j,j ≤ len → ∃ xs : List α,xs.length = j ∧ (∀ x ∈ xs,ok x) ∧ ∀ i p,xs[i]? = some p → ∃ c,c.length = d.sz ∧ d.K w p c ∧ ∀ k u,c[k]? = some u → w.cell? (a.add (i * d.sz + k)) = some u := by
   intro j
   induction j with
   | zero => exact fun _ => ⟨[],rfl,by simp,by simp⟩
   | succ j ih =>
    intro hj
    obtain ⟨xs,hxl,hok,hc⟩ := ih (by omega)
    obtain ⟨cs',h1,h2⟩ := hx j (by omega)
    obtain ⟨y,hy,hoky⟩ := he.2 H enc w sp n cs' _ h2
    obtain ⟨_,hcl,hcc⟩ := World.cells?_some h1
    refine ⟨xs ++ [y],by simp [hxl],fun x hx => ?_,fun i p hp => ?_⟩
    ·rcases List.mem_append.1 hx with hx | hx
     ·exact hok x hx
     ·rw [List.mem_singleton.1 hx];exact hoky
    ·rcases Nat.lt_or_ge i xs.length with hi | hi
     ·rw [List.getElem?_append_left hi] at hp
      exact hc i p hp
     ·rw [List.getElem?_append_right hi] at hp
      have hi' : i = xs.length := by
       rcases Nat.eq_zero_or_pos (i - xs.length) with h0 | h0
       ·omega
       ·rw [List.getElem?_eq_none (by simp;omega)] at hp;cases hp
      subst hi'
      simp only [Nat.sub_self,List.getElem?_cons_zero,Option.some.injEq] at hp
      subst hp
      refine ⟨cs',by rw [hcl,he.1],hy,fun k u hu => ?_⟩
      have hk : k < P.cellsOf e := by
       rcases Nat.lt_or_ge k cs'.length with h | h
       ·omega
       ·rw [List.getElem?_eq_none h] at hu;cases hu
      have := hcc k hk
      rw [Go.Addr.add_add,he.1,← hxl] at this
      rw [this];exact hu
  obtain ⟨xs,hxl,hok,hc⟩ := key len (Nat.le_refl _)
  refine ⟨xs,⟨some a,cap,by rw [hxl],by omega,?_⟩,by omega,hok⟩
  exact ⟨rfl,by omega,fun _ => ⟨a,rfl,hc⟩⟩
theorem tells_weaken {P : Program} {t : TypeId} {α : Type} {d : Kd α} {ok ok' : α → Prop} (h : Tells P t d ok) (hw : ∀ a,ok a → ok' a) : Tells P t d ok' :=
 ⟨h.1,fun H enc w sp fuel cs x hx => let ⟨a,ha,ho⟩ := h.2 H enc w sp fuel cs x hx;⟨a,ha,hw a ho⟩⟩
theorem tells_arg {P : Program} {t : TypeId} {α : Type} {d : Kd α} {ok : α → Prop} (h : Tells P t d ok) {H : Type} {enc : TypeId × Value → H} {w : World} {sp : Nat → Bool} {v : Value} {D : DataW H} {ps : List MemPlace}
  (hv : DataW.Trod enc P w 0 sp true t v D ps) : ∃ a,d.K w a v.cells.toList ∧ ok a := by
 obtain ⟨fuel,hf⟩ := hv
 exact h.2 H enc w sp fuel _ _ hf
theorem byte_bounds {n : Int} (h : (Lit.int .u8 n).wf = true) : 0 ≤ n ∧ n ≤ 255 := by
 simpa [Lit.wf,IntKind.min,IntKind.max,IntKind.signed,IntKind.bits] using h
def okB (n : Int) : Prop := 0 ≤ n ∧ n ≤ 255
def okL {α : Type} (ok : α → Prop) (xs : List α) : Prop := xs.length ≤ 9223372036854775807 ∧ ∀ x ∈ xs,ok x
theorem tellsB {P : Program} {t : TypeId} (ht : P.underlying t = some (.int .u8)) (hc : P.cellsOf t = 1) : Tells P t (Kd.int .u8) okB := tells_weaken (tells_int ht hc) fun _ h => byte_bounds h
theorem tellsL {P : Program} {t e : TypeId} {α : Type} {d : Kd α} {ok : α → Prop} (ht : P.underlying t = some (.slice e)) (hc : P.cellsOf t = 1) (he : Tells P e d ok) : Tells P t (Kd.slice e d) (okL ok) := tells_slice ht hc he
theorem arg_slice {P : Program} {t e : TypeId} {α : Type} {d : Kd α} {ok : α → Prop} (ht : P.underlying t = some (.slice e)) (h : Tells P t (Kd.slice e d) (okL ok)) {H : Type} {enc : TypeId × Value → H} {w w2 : World} {r : Reach} {base : Nat} {sp : Nat → Bool} {v : Value} {D : DataW H} {ps : List MemPlace}
  (ho : Value.okWide P w2 r base t v) (hv : DataW.Trod enc P w 0 sp true t v D ps) : ∃ A c xs,v = .slice A xs.length c ∧ xs.length ≤ c ∧ d.C w A xs.length xs ∧ okL ok xs := by
 obtain ⟨a,l,c,rfl⟩ := okWide_slice ht ho
 obtain ⟨xs,⟨A,c',hc,hl,hC⟩,hok⟩ := tells_arg h hv
 simp only [Value.cells,List.cons.injEq,and_true,Value.slice.injEq] at hc
 obtain ⟨rfl,rfl,rfl⟩ := hc
 exact ⟨_,_,xs,rfl,hl,hC,hok⟩
end Go.Proofs.Ytccbjchlcelkgaa.Read
namespace Go.Proofs.Ytccbjchlcelkgaa.Pr
open Go.RowKit Go.Proofs.YtccbjchlcelkgaaW.PrintWords Go.Proofs.YtccbjchlcelkgaaW.PrintLast Go.Proofs.YtccbjchlcelkgaaW.PrintMore
attribute [local go_sem] max2_int min2_int max_two min_two max_three min_three max_four min_four
set_option linter.unusedVariables false
set_option linter.unusedSimpArgs false
def errW : Option Int → Value
 | none => .nilIface
 | some c => .iface 0 (.int .i64 c)
theorem jx : errW none = .nilIface := rfl
theorem jw (c : Int) : errW (some c) = .iface 0 (.int .i64 c) := rfl
theorem info5 : (Try.prog.info? 5).map (fun i => (i.zero,i.size,i.bytes)) = some (some (.int .u8 0),1,1) := by kernel_rfl
theorem info9 : (Try.prog.info? 9).map (fun i => (i.zero,i.size,i.bytes)) = some (some (.string ⟨#[]⟩),1,16) := by kernel_rfl
theorem info122 : (Try.prog.info? 122).map (fun i => (i.zero,i.size,i.bytes)) = some (some (.agg #[(.string ⟨#[]⟩),(.string ⟨#[]⟩)]),2,32) := by kernel_rfl
structure S51 where
 f0 : Int
 f1 : Int
structure S34 where
 f0 : Int
 f1 : Int
 f2 : ByteArray
 f3 : ByteArray
def z34 : S34 := ⟨(0 : Int),(0 : Int),(⟨#[]⟩ : ByteArray),(⟨#[]⟩ : ByteArray)⟩
def k34 : Kd S34 := Kd.iso (Kd.pair (Kd.int .i64) (Kd.pair (Kd.int .i64) (Kd.pair Kd.string Kd.string))) (fun x : S34 => (x.f0,x.f1,x.f2,x.f3))
theorem k34_open {w : World} {x : S34} {cs : List Value} (h : k34.K w x cs) : cs = [.int .i64 x.f0,.int .i64 x.f1,.string x.f2,.string x.f3] := by
 obtain ⟨_,_,rfl,rfl,⟨_,_,rfl,rfl,⟨_,_,rfl,rfl,rfl⟩⟩⟩ := h
 exact rfl
def vk (xs : List S34) (i : Int) : S34 := xs.getD i.toNat z34
theorem at_T34 {w : World} {A : Option Addr} {n : Nat} {xs : List S34} (h : Kd.C k34 w A n xs) (i : Int) (h0 : 0 ≤ i) (h1 : i < n) : ∃ ad ,A = some ad ∧ w.cell? (ad.add (i.toNat * 4)) = some (.int .i64 (vk xs i).f0) ∧ w.cell? ⟨(ad.add (i.toNat * 4)).block,(ad.add (i.toNat * 4)).off + 1,none⟩ = some (.int .i64 (vk xs i).f1) ∧ w.cell? ⟨(ad.add (i.toNat * 4)).block,(ad.add (i.toNat * 4)).off + 2,none⟩ = some (.string (vk xs i).f2) ∧ w.cell? ⟨(ad.add (i.toNat * 4)).block,(ad.add (i.toNat * 4)).off + 3,none⟩ = some (.string (vk xs i).f3) := by
 obtain ⟨ad,c,e,_,hK,hc0⟩ := Kd.C_get h z34 i h0 h1
 have hc : ∀ j u,c[j]? = some u → w.cell? (ad.add (i.toNat * 4 + j)) = some u := hc0
 obtain rfl := k34_open hK
 exact ⟨ad,e,hc 0 _ rfl,by rw [← add_field _ _ 1 (by omega)];exact hc 1 _ rfl,by rw [← add_field _ _ 2 (by omega)];exact hc 2 _ rfl,by rw [← add_field _ _ 3 (by omega)];exact hc 3 _ rfl⟩
structure S122 where
 f0 : ByteArray
 f1 : ByteArray
def z122 : S122 := ⟨(⟨#[]⟩ : ByteArray),(⟨#[]⟩ : ByteArray)⟩
def k122 : Kd S122 := Kd.iso (Kd.pair Kd.string Kd.string) (fun x : S122 => (x.f0,x.f1))
theorem k122_open {w : World} {x : S122} {cs : List Value} (h : k122.K w x cs) : cs = [.string x.f0,.string x.f1] := by
 obtain ⟨_,_,rfl,rfl,rfl⟩ := h
 exact rfl
theorem k122_openM {w : World} {base : Nat} {ok : Nat → Prop} {x : S122} {cs : List Value} (h : k122.M w base ok x cs) : cs = [.string x.f0,.string x.f1] := by
 obtain ⟨_,_,rfl,rfl,rfl⟩ := h
 exact rfl
theorem k122_mkM (w : World) (base : Nat) (ok : Nat → Prop) (x : S122)  : k122.M w base ok x [.string x.f0,.string x.f1] := ⟨[.string x.f0],[.string x.f1],rfl,rfl,rfl⟩
def vz (xs : List S122) (i : Int) : S122 := xs.getD i.toNat z122
theorem at_T122 {w : World} {A : Option Addr} {n : Nat} {xs : List S122} (h : Kd.C k122 w A n xs) (i : Int) (h0 : 0 ≤ i) (h1 : i < n) : ∃ ad ,A = some ad ∧ w.cell? (ad.add (i.toNat * 2)) = some (.string (vz xs i).f0) ∧ w.cell? ⟨(ad.add (i.toNat * 2)).block,(ad.add (i.toNat * 2)).off + 1,none⟩ = some (.string (vz xs i).f1) := by
 obtain ⟨ad,c,e,_,hK,hc0⟩ := Kd.C_get h z122 i h0 h1
 have hc : ∀ j u,c[j]? = some u → w.cell? (ad.add (i.toNat * 2 + j)) = some u := hc0
 obtain rfl := k122_open hK
 exact ⟨ad,e,hc 0 _ rfl,by rw [← add_field _ _ 1 (by omega)];exact hc 1 _ rfl⟩
structure S76 where
 f0 : ByteArray
 f1 : Int
 f2 : ByteArray
 f3 : S34
structure S151 where
 f0 : ByteArray
 f1 : Int
def bytesOfS.f (s : ByteArray) : Option (List Int) := if s.size ≤ 9223372036854775807 then some (bytesOf s) else none
def BytesCalls (P : Program) (src dst : TypeId) (s : ByteArray) (w : World) (R : Ending → World → Prop) : Prop :=
 ∃ v w',(convert src dst (.string s)).run P w = .ok v w' ∧ R (.returned v) w'
theorem BytesCalls.mono {P : Program} {src dst : TypeId} {s : ByteArray} {w : World} {R R' : Ending → World → Prop} (h : BytesCalls P src dst s w R) (hr : ∀ e w',R e w' → R' e w') : BytesCalls P src dst s w R' :=
 let ⟨v,w',h1,h2⟩ := h;⟨v,w',h1,hr _ _ h2⟩
theorem bytesOfS.calls (a0 : ByteArray) (r : List Int) (w : World) (h : bytesOfS.f a0 = some r) :
  BytesCalls Try.prog 9 22 a0 w fun e w' => ∃ v0_ : Value,e = .returned (v0_) ∧ Kd.V (Kd.int .u8) 5 w' w.heap.size (fun k_ => (w.heap.size ≤ k_)) v0_ r ∧ Below w.heap.size w w' := by
 unfold bytesOfS.f at h
 by_cases hs : a0.size ≤ 9223372036854775807
 case neg => rw [if_neg hs] at h;cases h
 rw [if_pos hs] at h
 obtain rfl := Option.some.inj h
 refine ⟨_,_,print_bytes 9 22 5 Try.underlying9 Try.underlying22 Try.underlying5 a0 w,_,rfl,?_,vv (Below.refl _ _) (Nat.le_refl _) 5 a0⟩
 have hcell : ∀ W' : World,W'.heap[w.heap.size]? = (Lib.bytesWorld w 5 a0).heap[w.heap.size]? → (Kd.int .u8).C W' (some ⟨w.heap.size,0,none⟩) (bytesOf a0).length (bytesOf a0) := by
  intro W' hW
  have h0 := vw w 5 a0 hs
  have h1 : ReadsInt W' .u8 (some ⟨w.heap.size,0,none⟩) (bytesOf a0).length (bytesOf a0) := by
   refine ⟨rfl,by rw [bytesOf_length];exact hs,fun hp => ?_⟩
   obtain ⟨ad,e1,hc⟩ := h0.2.2 (by rw [bytesOf_length] at hp;exact hp)
   refine ⟨ad,e1,fun j hj => ?_⟩
   rw [← hc j (by rw [bytesOf_length] at hj;exact hj)]
   injection e1 with e1
   subst e1
   rw [add_plain]
   exact World.cell?_of_block (by exact hW)
  exact Kd.C_of_reads (d := (0 : Int)) (h1 := fun _ => rfl) h1
 refine ⟨some ⟨w.heap.size,0,none⟩,grownCap w a0.size 0 5,by rw [bytesOf_length],by rw [bytesOf_length];exact grownCap_ge _ _ _ _,fun W' hW => hcell W' (hW _ (Nat.le_refl _) ?_)⟩
 rw [Lib.bytesWorld_size];omega
section
variable {P : Program} {ops : Array Oper} {Q : Exit → Act → World → Prop}
def BoxCalls (t : TypeId) (cs : Array Value) (w : World) (R : Ending → World → Prop) : Prop := R (.returned (.pointer (some ⟨w.heap.size,0,none⟩))) (w.alloc (.cells cs t (0,0)))
theorem BoxCalls.mono {t : TypeId} {cs : Array Value} {w : World} {R R' : Ending → World → Prop} (h : BoxCalls t cs w R) (hr : ∀ e w',R e w' → R' e w') : BoxCalls t cs w R' := hr _ _ h
theorem gate_box {rest : List Oper} {o : Oper} {a : Act} {W : World} {t : TypeId} {x : Operand} (_ho : o.op = .box t x) (h : wpList P ops Q (o :: rest) a W) : wpList P ops Q (o :: rest) a W := h
theorem boxGoesL_ {rest : List Oper} {oi : Oper} {a : Act} {w : World} (N : Option Tmp) (hd : oi.dst = N) (hg : oi.guard = none) {t : TypeId} {cs : Array Value}
  (hr : (execOp a.eval oi).run P w = .ok (.value (.pointer (some ⟨w.heap.size,0,none⟩))) (w.alloc (.cells cs t (0,0))))
  (h : BoxCalls t cs w fun e w' => ∃ v,e = .returned v ∧ wpList P ops Q rest (a.put N v) w') : wpList P ops Q (oi :: rest) a w := by
 obtain ⟨v',he,hw⟩ := h
 injection he with he
 subst he
 subst hd
 exact Kd.event_run hg hr hw
end
def vq (w0 W : World) (g : Nat) (f0 : List Int) (f1 : Int) (f2 : Int) : Prop := ∃ A0 c0,W.heap[g]? = some (.cells #[.slice A0 f0.length c0,.int .i64 f1,.int .u64 f2] 82 (0,0)) ∧ w0.heap.size ≤ g ∧ Kd.C (Kd.int .u8) w0 A0 f0.length f0
theorem vq.grown {w0 W : World} {g : Nat} {f0 : List Int} {f1 : Int} {f2 : Int} {W1 : World} {row : Option Nat} (h : vq w0 W g f0 f1 f2) (hw : W.grownBy W1 row) (hne : some g ≠ row) : vq w0 W1 g f0 f1 f2 := by
 obtain ⟨A0,c0,hb,hg,hr0⟩ := h
 exact ⟨A0,c0,blk_grown hb hw hne,hg,hr0⟩
theorem vq.kept {w0 W : World} {g : Nat} {f0 : List Int} {f1 : Int} {f2 : Int} {W1 : World} {S : Nat → Prop} (h : vq w0 W g f0 f1 f2) (hk : kv W W1 S) (hne : ¬ S g) : vq w0 W1 g f0 f1 f2 := by
 obtain ⟨A0,c0,hb,hg,hr0⟩ := h
 exact ⟨A0,c0,blk_kept hb hk hne,hg,hr0⟩
theorem vq.below {w0 W : World} {g : Nat} {f0 : List Int} {f1 : Int} {f2 : Int} {W1 : World} (h : vq w0 W g f0 f1 f2) (hw : Below W.heap.size W W1) : vq w0 W1 g f0 f1 f2 := h.grown (grown_of_below hw none) (by simp)
theorem vq.alloc {w0 W : World} {g : Nat} {f0 : List Int} {f1 : Int} {f2 : Int} (h : vq w0 W g f0 f1 f2) (o : Obj) : vq w0 (W.alloc o) g f0 f1 f2 := h.below (qj (Below.refl _ _) o)
theorem vq.drewN {w0 W : World} {g : Nat} {f0 : List Int} {f1 : Int} {f2 : Int} (h : vq w0 W g f0 f1 f2) (m : Nat) : vq w0 (W.drewN m) g f0 f1 f2 := h
theorem vq.drew {w0 W : World} {g : Nat} {f0 : List Int} {f1 : Int} {f2 : Int} (h : vq w0 W g f0 f1 f2) : vq w0 W.drew g f0 f1 f2 := h
theorem vq.at_ {w0 W : World} {g : Nat} {f0 : List Int} {f1 : Int} {f2 : Int} {w' : World} {m : Nat} (hq : W.drewN m = w') (h : vq w0 W g f0 f1 f2) : vq w0 w' g f0 f1 f2 := by subst hq;exact vq.drewN h m
theorem vq.apart {w0 W : World} {g : Nat} {f0 : List Int} {f1 : Int} {f2 : Int} {α : Type} {d : Kd α} {e : Nat} {base : Nat} {ok : Nat → Prop} {v : Value} {xs : List α} (h : vq w0 W g f0 f1 f2) (ho : d.R e W base ok v xs) (ht : ∀ q,q ∈ e :: d.E → q ≠ 82) : d.R e W base (fun k => ok k ∧ k ≠ g) v xs := by
 obtain ⟨A0,c0,hb,hg,hr0⟩ := h
 exact Kd.R_types ho hb ht
theorem vq.own_ne {w0 W : World} {g : Nat} {f0 : List Int} {f1 : Int} {f2 : Int} {α : Type} {d : Kd α} {e : Nat} {base : Nat} {ok : Nat → Prop} {v : Value} {xs : List α} (h : vq w0 W g f0 f1 f2) (ho : d.R e W base ok v xs) (ht : e ≠ 82) : some g ≠ v.ownBlock := by
 obtain ⟨A0,c0,hb,hg,hr0⟩ := h
 exact Kd.R_ne ho hb ht
theorem vq.lt {w0 W : World} {g : Nat} {f0 : List Int} {f1 : Int} {f2 : Int} (h : vq w0 W g f0 f1 f2) : g < W.heap.size := by
 obtain ⟨A0,c0,hb,hg,hr0⟩ := h
 exact blk_lt hb
theorem vq.ge {w0 W : World} {g : Nat} {f0 : List Int} {f1 : Int} {f2 : Int} (h : vq w0 W g f0 f1 f2) : w0.heap.size ≤ g := by
 obtain ⟨A0,c0,hb,hg,hr0⟩ := h
 exact hg
theorem cellS82_0 {W : World} {g : Nat} {A0 : Option Addr} {c0 : Nat} {f0 : List Int} {f1 : Int} {f2 : Int} (h : W.heap[g]? = some (.cells #[.slice A0 f0.length c0,.int .i64 f1,.int .u64 f2] 82 (0,0))) : W.cell? ⟨g,0,none⟩ = some (.slice A0 f0.length c0) := (qw h 0).trans rfl
theorem cellS82_1 {W : World} {g : Nat} {A0 : Option Addr} {c0 : Nat} {f0 : List Int} {f1 : Int} {f2 : Int} (h : W.heap[g]? = some (.cells #[.slice A0 f0.length c0,.int .i64 f1,.int .u64 f2] 82 (0,0))) : W.cell? ⟨g,1,none⟩ = some (.int .i64 f1) := (qw h 1).trans rfl
theorem vq.set_1 {w0 W : World} {g : Nat} {f0 : List Int} {f1 : Int} {f2 : Int} (h : vq w0 W g f0 f1 f2) (x : Int) : vq w0 (W.setCell ⟨g,1,none⟩ (.int .i64 x)) g f0 x f2 := by
 obtain ⟨A0,c0,hb,hg,hr0⟩ := h
 exact ⟨A0,c0,by simpa using blk_set hb 1 (.int .i64 x),hg,hr0⟩
theorem cellS82_2 {W : World} {g : Nat} {A0 : Option Addr} {c0 : Nat} {f0 : List Int} {f1 : Int} {f2 : Int} (h : W.heap[g]? = some (.cells #[.slice A0 f0.length c0,.int .i64 f1,.int .u64 f2] 82 (0,0))) : W.cell? ⟨g,2,none⟩ = some (.int .u64 f2) := (qw h 2).trans rfl
theorem vq.set_2 {w0 W : World} {g : Nat} {f0 : List Int} {f1 : Int} {f2 : Int} (h : vq w0 W g f0 f1 f2) (x : Int) : vq w0 (W.setCell ⟨g,2,none⟩ (.int .u64 x)) g f0 f1 x := by
 obtain ⟨A0,c0,hb,hg,hr0⟩ := h
 exact ⟨A0,c0,by simpa using blk_set hb 2 (.int .u64 x),hg,hr0⟩
theorem vq.new (w0 W : World) (A0 : Option Addr) (c0 : Nat) (f0 : List Int) (f1 : Int) (f2 : Int) (hB : Below w0.heap.size w0 W) (hr0 : Kd.C (Kd.int .u8) w0 A0 f0.length f0) : vq w0 (W.alloc (.cells #[.slice A0 f0.length c0,.int .i64 f1,.int .u64 f2] 82)) W.heap.size f0 f1 f2 := ⟨A0,c0,by simpa using heap_alloc_new W _,hB.size,hr0⟩
def newCur.f (l0_0 : List Int) (a0_1 : Int) (a0_2 : Int) : Option (List Int × Int × Int) := some (l0_0,a0_1,a0_2)
set_option maxHeartbeats 8000000 in
set_option maxRecDepth 100000 in
theorem newCur.calls (A0_0 : Option Addr) (c0_0 : Nat) (l0_0 : List Int) (a0_1 : Int) (a0_2 : Int) (r1 : List Int) (r2 : Int) (r3 : Int) (w0 w : World) (hB : Below w0.heap.size w0 w) (hr0_0 : Kd.C (Kd.int .u8) w0 A0_0 l0_0.length l0_0) (hc0_0 : l0_0.length ≤ c0_0) (h : newCur.f l0_0 a0_1 a0_2 = some (r1,r2,r3)) :
  BoxCalls 82 #[.slice A0_0 l0_0.length c0_0,.int .i64 a0_1,.int .u64 a0_2] w fun e w' => ∃ g_ : Nat,e = .returned (.pointer (some ⟨g_,0,none⟩)) ∧ vq w0 w' g_ r1 r2 r3 ∧ Below w0.heap.size w0 w' ∧ Below w.heap.size w w' := by
 unfold newCur.f at h
 simp only [Option.some.injEq,Prod.mk.injEq] at h
 obtain ⟨rfl,rfl,rfl⟩ := h
 exact ⟨_,rfl,vq.new w0 w A0_0 c0_0 l0_0 a0_1 a0_2 hB hr0_0,hB.alloc hB.size _,qj (Below.refl _ _) _⟩
def qzv.f (s0_0 : List Int) (s0_1 : Int) (s0_2 : Int) : Option (Int × Int × Int) := if s0_1 < (s0_0.length : Int) then (if 0 ≤ s0_1 then (if (wrap64 (s0_1 + 1)) ≤ (s0_0.length : Int) then (some (wrap64 (rd s0_0 s0_1),wrap64 (s0_1 + 1),IntKind.u64.wrap ((IntKind.u64.wrap ((IntKind.u64.wrap (s0_2 * 6364136223846793005)) + (IntKind.u64.wrap (wrap64 (rd s0_0 s0_1))))) + 1442695040888963407))) else (some (wrap64 (Go.bits .and .u64 ((IntKind.u64.wrap ((IntKind.u64.wrap ((IntKind.u64.wrap (s0_2 * 6364136223846793005)) + (IntKind.u64.wrap (wrap64 (rd s0_0 s0_1))))) + 1442695040888963407)) / 1099511627776) 255),wrap64 (s0_1 + 1),IntKind.u64.wrap ((IntKind.u64.wrap ((IntKind.u64.wrap (s0_2 * 6364136223846793005)) + (IntKind.u64.wrap (wrap64 (rd s0_0 s0_1))))) + 1442695040888963407)))) else (none)) else (if (wrap64 (s0_1 + 1)) ≤ (s0_0.length : Int) then (some (0,wrap64 (s0_1 + 1),IntKind.u64.wrap ((IntKind.u64.wrap (IntKind.u64.wrap (s0_2 * 6364136223846793005))) + 1442695040888963407))) else (some (wrap64 (Go.bits .and .u64 ((IntKind.u64.wrap ((IntKind.u64.wrap (IntKind.u64.wrap (s0_2 * 6364136223846793005))) + 1442695040888963407)) / 1099511627776) 255),wrap64 (s0_1 + 1),IntKind.u64.wrap ((IntKind.u64.wrap (IntKind.u64.wrap (s0_2 * 6364136223846793005))) + 1442695040888963407))))
set_option maxHeartbeats 8000000 in
set_option maxRecDepth 100000 in
theorem qzv.calls (g : Nat) (s0_0 : List Int) (s0_1 : Int) (s0_2 : Int) (r1 : Int) (r2 : Int) (r3 : Int) (w0 w : World) (hI : vq w0 w g s0_0 s0_1 s0_2) (hB : Below w0.heap.size w0 w) (h : qzv.f s0_0 s0_1 s0_2 = some (r1,r2,r3)) :
  Calls Try.prog 122 #[.pointer (some ⟨g,0,none⟩)] w fun e w' => e = .returned (.int .i64 r1) ∧ vq w0 w' g s0_0 r2 r3 ∧ Below w0.heap.size w0 w' ∧ zk w w' g none := by
 have HI0 := qq.mk hI
 have HK := qq.mk (zk.refl w g none)
 have HL := qq.mk hB.size
 clear hI
 have HW0 := qq.mk hB.size
 have HB := qq.mk hB
 clear hB
 have H : (if s0_1 < (s0_0.length : Int) then (if 0 ≤ s0_1 then (if (wrap64 (s0_1 + 1)) ≤ (s0_0.length : Int) then (some (wrap64 (rd s0_0 s0_1),wrap64 (s0_1 + 1),IntKind.u64.wrap ((IntKind.u64.wrap ((IntKind.u64.wrap (s0_2 * 6364136223846793005)) + (IntKind.u64.wrap (wrap64 (rd s0_0 s0_1))))) + 1442695040888963407))) else (some (wrap64 (Go.bits .and .u64 ((IntKind.u64.wrap ((IntKind.u64.wrap ((IntKind.u64.wrap (s0_2 * 6364136223846793005)) + (IntKind.u64.wrap (wrap64 (rd s0_0 s0_1))))) + 1442695040888963407)) / 1099511627776) 255),wrap64 (s0_1 + 1),IntKind.u64.wrap ((IntKind.u64.wrap ((IntKind.u64.wrap (s0_2 * 6364136223846793005)) + (IntKind.u64.wrap (wrap64 (rd s0_0 s0_1))))) + 1442695040888963407)))) else (none)) else (if (wrap64 (s0_1 + 1)) ≤ (s0_0.length : Int) then (some (0,wrap64 (s0_1 + 1),IntKind.u64.wrap ((IntKind.u64.wrap (IntKind.u64.wrap (s0_2 * 6364136223846793005))) + 1442695040888963407))) else (some (wrap64 (Go.bits .and .u64 ((IntKind.u64.wrap ((IntKind.u64.wrap (IntKind.u64.wrap (s0_2 * 6364136223846793005))) + 1442695040888963407)) / 1099511627776) 255),wrap64 (s0_1 + 1),IntKind.u64.wrap ((IntKind.u64.wrap (IntKind.u64.wrap (s0_2 * 6364136223846793005))) + 1442695040888963407))))) = some (r1,r2,r3) := h
 clear h
 by_cases c2 : s0_1 < (s0_0.length : Int)
 ·rw [if_pos c2] at H
  have c2b0 : decide (s0_1 < (s0_0.length : Int)) = true := decide_eq_true c2
  clear c2
  by_cases c3 : 0 ≤ s0_1
  ·rw [if_pos c3] at H
   have c3b0 : decide (0 ≤ s0_1) = true := decide_eq_true c3
   clear c3
   by_cases c4 : (wrap64 (s0_1 + 1)) ≤ (s0_0.length : Int)
   ·rw [if_pos c4] at H
    have c4b0 : decide ((wrap64 (s0_1 + 1)) ≤ (s0_0.length : Int)) = true := decide_eq_true c4
    clear c4
    simp only [Option.some.injEq,Prod.mk.injEq] at H
    obtain ⟨rfl,rfl,rfl⟩ := H
    obtain ⟨ASz5_0,cSz5_0,HGz5,hgz5,HSz5_0⟩ := HI0.out
    have hcz5_0 := cellS82_0 HGz5
    have hcz5_1 := cellS82_1 HGz5
    have hcz5_2 := cellS82_2 HGz5
    have hfz5_1 := qv HGz5 1
    have hfz5_2 := qv HGz5 2
    clear HGz5 hgz5
    have p101 : 0 ≤ (s0_1 : Int) := of_decide_eq_true (by assumption)
    have q101 : s0_1 < (s0_0.length : Int) := of_decide_eq_true (by assumption)
    obtain ⟨ad101,e101,hx101_0⟩ := Kd.at_int HSz5_0 s0_1 p101 q101
    cases e101
    replace hx101_0 := pw_cell_below HB.out hx101_0
    replace p101 := eq_true p101
    replace q101 := eq_true q101
    go_enter Try.func122,Try.ntmps122
    go_wp2
    repeat (go_quiet (fail);try go_wp2)
    go_ret
    exact ⟨by first | rfl | (simp [*,jx,jw] <;> rfl),by repeat (first | (with_reducible first | exact HI0.out | apply vq.alloc | apply vq.drewN | apply vq.drew | apply vq.set_1 | apply vq.set_2) | exact HI0.out),by repeat (first | (with_reducible first | exact HB.out | apply qj | apply qz | apply qk | refine qx ?_ (vq.ge HI0.out)) | exact HB.out),by repeat (first | (with_reducible first | exact HK.out | apply zk.set_ | apply jj | apply jv | apply jk) | exact HK.out)⟩
   ·rw [if_neg c4] at H
    have c4b0 : decide ((wrap64 (s0_1 + 1)) ≤ (s0_0.length : Int)) = false := decide_eq_false c4
    clear c4
    simp only [Option.some.injEq,Prod.mk.injEq] at H
    obtain ⟨rfl,rfl,rfl⟩ := H
    obtain ⟨ASz6_0,cSz6_0,HGz6,hgz6,HSz6_0⟩ := HI0.out
    have hcz6_0 := cellS82_0 HGz6
    have hcz6_1 := cellS82_1 HGz6
    have hcz6_2 := cellS82_2 HGz6
    have hfz6_1 := qv HGz6 1
    have hfz6_2 := qv HGz6 2
    clear HGz6 hgz6
    have p101 : 0 ≤ (s0_1 : Int) := of_decide_eq_true (by assumption)
    have q101 : s0_1 < (s0_0.length : Int) := of_decide_eq_true (by assumption)
    obtain ⟨ad101,e101,hx101_0⟩ := Kd.at_int HSz6_0 s0_1 p101 q101
    cases e101
    replace hx101_0 := pw_cell_below HB.out hx101_0
    replace p101 := eq_true p101
    replace q101 := eq_true q101
    go_enter Try.func122,Try.ntmps122
    go_wp2
    repeat (go_quiet (fail);try go_wp2)
    go_ret
    exact ⟨by first | rfl | (simp [*,jx,jw] <;> rfl),by repeat (first | (with_reducible first | exact HI0.out | apply vq.alloc | apply vq.drewN | apply vq.drew | apply vq.set_1 | apply vq.set_2) | exact HI0.out),by repeat (first | (with_reducible first | exact HB.out | apply qj | apply qz | apply qk | refine qx ?_ (vq.ge HI0.out)) | exact HB.out),by repeat (first | (with_reducible first | exact HK.out | apply zk.set_ | apply jj | apply jv | apply jk) | exact HK.out)⟩
  ·rw [if_neg c3] at H
   exact absurd H (by simp)
 ·rw [if_neg c2] at H
  have c2b0 : decide (s0_1 < (s0_0.length : Int)) = false := decide_eq_false c2
  clear c2
  by_cases c7 : (wrap64 (s0_1 + 1)) ≤ (s0_0.length : Int)
  ·rw [if_pos c7] at H
   have c7b0 : decide ((wrap64 (s0_1 + 1)) ≤ (s0_0.length : Int)) = true := decide_eq_true c7
   clear c7
   simp only [Option.some.injEq,Prod.mk.injEq] at H
   obtain ⟨rfl,rfl,rfl⟩ := H
   obtain ⟨ASz8_0,cSz8_0,HGz8,hgz8,HSz8_0⟩ := HI0.out
   have hcz8_0 := cellS82_0 HGz8
   have hcz8_1 := cellS82_1 HGz8
   have hcz8_2 := cellS82_2 HGz8
   have hfz8_1 := qv HGz8 1
   have hfz8_2 := qv HGz8 2
   clear HGz8 hgz8
   go_enter Try.func122,Try.ntmps122
   go_wp2
   repeat (go_quiet (fail);try go_wp2)
   go_ret
   exact ⟨by first | rfl | (simp [*,jx,jw] <;> rfl),by repeat (first | (with_reducible first | exact HI0.out | apply vq.alloc | apply vq.drewN | apply vq.drew | apply vq.set_1 | apply vq.set_2) | exact HI0.out),by repeat (first | (with_reducible first | exact HB.out | apply qj | apply qz | apply qk | refine qx ?_ (vq.ge HI0.out)) | exact HB.out),by repeat (first | (with_reducible first | exact HK.out | apply zk.set_ | apply jj | apply jv | apply jk) | exact HK.out)⟩
  ·rw [if_neg c7] at H
   have c7b0 : decide ((wrap64 (s0_1 + 1)) ≤ (s0_0.length : Int)) = false := decide_eq_false c7
   clear c7
   simp only [Option.some.injEq,Prod.mk.injEq] at H
   obtain ⟨rfl,rfl,rfl⟩ := H
   obtain ⟨ASz9_0,cSz9_0,HGz9,hgz9,HSz9_0⟩ := HI0.out
   have hcz9_0 := cellS82_0 HGz9
   have hcz9_1 := cellS82_1 HGz9
   have hcz9_2 := cellS82_2 HGz9
   have hfz9_1 := qv HGz9 1
   have hfz9_2 := qv HGz9 2
   clear HGz9 hgz9
   go_enter Try.func122,Try.ntmps122
   go_wp2
   repeat (go_quiet (fail);try go_wp2)
   go_ret
   exact ⟨by first | rfl | (simp [*,jx,jw] <;> rfl),by repeat (first | (with_reducible first | exact HI0.out | apply vq.alloc | apply vq.drewN | apply vq.drew | apply vq.set_1 | apply vq.set_2) | exact HI0.out),by repeat (first | (with_reducible first | exact HB.out | apply qj | apply qz | apply qk | refine qx ?_ (vq.ge HI0.out)) | exact HB.out),by repeat (first | (with_reducible first | exact HK.out | apply zk.set_ | apply jj | apply jv | apply jk) | exact HK.out)⟩
def qjz.f (s0_0 : List Int) (s0_1 : Int) (s0_2 : Int) (a1 : Int) : Option (Int × Int × Int) := if a1 ≤ 1 then (some (0,s0_1,s0_2)) else ((qzv.f s0_0 s0_1 s0_2).bind fun bt101 => (if a1 > 200 then ((qzv.f s0_0 bt101.2.1 bt101.2.2).bind fun bt104 => (if a1 = 0 then (none) else (some (Int.tmod (wrap64 ((wrap64 (bt101.1 * 256)) + bt104.1)) a1,bt104.2.1,bt104.2.2)))) else (if a1 = 0 then (none) else (some (Int.tmod bt101.1 a1,bt101.2.1,bt101.2.2)))))
set_option maxHeartbeats 8000000 in
set_option maxRecDepth 100000 in
theorem qjz.calls (g : Nat) (s0_0 : List Int) (s0_1 : Int) (s0_2 : Int) (a1 : Int) (r1 : Int) (r2 : Int) (r3 : Int) (w0 w : World) (hI : vq w0 w g s0_0 s0_1 s0_2) (hB : Below w0.heap.size w0 w) (h : qjz.f s0_0 s0_1 s0_2 a1 = some (r1,r2,r3)) :
  Calls Try.prog 54 #[.pointer (some ⟨g,0,none⟩),.int .i64 a1] w fun e w' => e = .returned (.int .i64 r1) ∧ vq w0 w' g s0_0 r2 r3 ∧ Below w0.heap.size w0 w' ∧ zk w w' g none := by
 have HI0 := qq.mk hI
 have HK := qq.mk (zk.refl w g none)
 have HL := qq.mk hB.size
 clear hI
 have HW0 := qq.mk hB.size
 have HB := qq.mk hB
 clear hB
 have H : (if a1 ≤ 1 then (some (0,s0_1,s0_2)) else ((qzv.f s0_0 s0_1 s0_2).bind fun bt101 => (if a1 > 200 then ((qzv.f s0_0 bt101.2.1 bt101.2.2).bind fun bt104 => (if a1 = 0 then (none) else (some (Int.tmod (wrap64 ((wrap64 (bt101.1 * 256)) + bt104.1)) a1,bt104.2.1,bt104.2.2)))) else (if a1 = 0 then (none) else (some (Int.tmod bt101.1 a1,bt101.2.1,bt101.2.2)))))) = some (r1,r2,r3) := h
 clear h
 by_cases c3 : a1 ≤ 1
 ·rw [if_pos c3] at H
  have c3b0 : decide (a1 ≤ 1) = true := decide_eq_true c3
  clear c3
  simp only [Option.some.injEq,Prod.mk.injEq] at H
  obtain ⟨rfl,rfl,rfl⟩ := H
  go_enter Try.func54,Try.ntmps54
  go_wp2
  go_ret
  exact ⟨by first | rfl | (simp [*,jx,jw] <;> rfl),by repeat (first | (with_reducible first | exact HI0.out | apply vq.alloc | apply vq.drewN | apply vq.drew | apply vq.set_1 | apply vq.set_2) | exact HI0.out),by repeat (first | (with_reducible first | exact HB.out | apply qj | apply qz | apply qk | refine qx ?_ (vq.ge HI0.out)) | exact HB.out),by repeat (first | (with_reducible first | exact HK.out | apply zk.set_ | apply jj | apply jv | apply jk) | exact HK.out)⟩
 ·rw [if_neg c3] at H
  have c3b0 : decide (a1 ≤ 1) = false := decide_eq_false c3
  clear c3
  replace H := Option.bind_eq_some_iff.mp H
  obtain ⟨⟨t101,t102,t103⟩,A40,H⟩ := H
  replace H : (if a1 > 200 then ((qzv.f s0_0 t102 t103).bind fun bt104 => (if a1 = 0 then (none) else (some (Int.tmod (wrap64 ((wrap64 (t101 * 256)) + bt104.1)) a1,bt104.2.1,bt104.2.2)))) else (if a1 = 0 then (none) else (some (Int.tmod t101 a1,t102,t103)))) = some (r1,r2,r3) := H
  have A4 := qq.mk A40
  clear A40
  by_cases c5 : a1 > 200
  ·rw [if_pos c5] at H
   have c5b0 : decide (200 < a1) = true := decide_eq_true c5
   clear c5
   replace H := Option.bind_eq_some_iff.mp H
   obtain ⟨⟨t104,t105,t106⟩,A60,H⟩ := H
   replace H : (if a1 = 0 then (none) else (some (Int.tmod (wrap64 ((wrap64 (t101 * 256)) + t104)) a1,t105,t106))) = some (r1,r2,r3) := H
   have A6 := qq.mk A60
   clear A60
   by_cases c7 : a1 = 0
   ·rw [if_pos c7] at H
    exact absurd H (by simp)
   ·rw [if_neg c7] at H
    have c7b0 : (a1 == 0) = false := beq_eq_false_iff_ne.mpr c7
    have c7b1 : (a1 != 0) = true := bne_iff_ne.mpr c7
    simp only [Option.some.injEq,Prod.mk.injEq] at H
    obtain ⟨rfl,rfl,rfl⟩ := H
    go_enter Try.func54,Try.ntmps54
    go_wp2_with (first | ((with_reducible refine kz (f := 122) rfl ?_);refine goesL_ (some 9) rfl rfl Try.func122 (by kernel_rfl) rfl #[.pointer (some ⟨g,0,none⟩)] rfl (by (try simp only [List.map_toArray,List.map_cons,List.map_nil]);first | done | rfl | (simp only [List.length_drop,List.length_take];rfl)) ?_;(with_reducible refine (qzv.calls g s0_0 s0_1 s0_2 t101 t102 t103 w0 _ ?side1 ?side2 A4.out).mono ?_);(case side1 => repeat (first | (with_reducible first | exact HI0.out | apply vq.alloc | apply vq.drewN | apply vq.drew | apply vq.set_1 | apply vq.set_2) | exact HI0.out));(case side2 => repeat (first | (with_reducible first | exact HB.out | apply qj | apply qz | apply qk | refine qx ?_ (vq.ge HI0.out)) | exact HB.out));rintro e w8 ⟨rfl,hi,hb,hk⟩;refine ⟨_,rfl,?_⟩;have n0_ := qq.mk (zk.trans (by repeat (first | (with_reducible first | exact HK.out | apply zk.set_ | apply jj | apply jv | apply jk) | exact HK.out)) hk (.inl rfl));have n1_ := qq.mk (hb);have n2_ := qq.mk (hi);clear HK;clear HB;clear HI0;have HK := n0_;have HB := n1_;have HI0 := n2_;clear n0_ n1_ n2_;(try clear hb);(try clear hb2);(try clear hk);(try clear hi)) | ((with_reducible refine kz (f := 122) rfl ?_);refine goesL_ (some 15) rfl rfl Try.func122 (by kernel_rfl) rfl #[.pointer (some ⟨g,0,none⟩)] rfl (by (try simp only [List.map_toArray,List.map_cons,List.map_nil]);first | done | rfl | (simp only [List.length_drop,List.length_take];rfl)) ?_;(with_reducible refine (qzv.calls g s0_0 t102 t103 t104 t105 t106 w0 _ ?side1 ?side2 A6.out).mono ?_);(case side1 => repeat (first | (with_reducible first | exact HI0.out | apply vq.alloc | apply vq.drewN | apply vq.drew | apply vq.set_1 | apply vq.set_2) | exact HI0.out));(case side2 => repeat (first | (with_reducible first | exact HB.out | apply qj | apply qz | apply qk | refine qx ?_ (vq.ge HI0.out)) | exact HB.out));rintro e w9 ⟨rfl,hi,hb,hk⟩;refine ⟨_,rfl,?_⟩;have n0_ := qq.mk (zk.trans (by repeat (first | (with_reducible first | exact HK.out | apply zk.set_ | apply jj | apply jv | apply jk) | exact HK.out)) hk (.inl rfl));have n1_ := qq.mk (hb);have n2_ := qq.mk (hi);clear HK;clear HB;clear HI0;have HK := n0_;have HB := n1_;have HI0 := n2_;clear n0_ n1_ n2_;(try clear hb);(try clear hb2);(try clear hk);(try clear hi)))
    go_ret
    exact ⟨by first | rfl | (simp [*,jx,jw] <;> rfl),by repeat (first | (with_reducible first | exact HI0.out | apply vq.alloc | apply vq.drewN | apply vq.drew | apply vq.set_1 | apply vq.set_2) | exact HI0.out),by repeat (first | (with_reducible first | exact HB.out | apply qj | apply qz | apply qk | refine qx ?_ (vq.ge HI0.out)) | exact HB.out),by repeat (first | (with_reducible first | exact HK.out | apply zk.set_ | apply jj | apply jv | apply jk) | exact HK.out)⟩
  ·rw [if_neg c5] at H
   have c5b0 : decide (200 < a1) = false := decide_eq_false c5
   clear c5
   by_cases c10 : a1 = 0
   ·rw [if_pos c10] at H
    exact absurd H (by simp)
   ·rw [if_neg c10] at H
    have c10b0 : (a1 == 0) = false := beq_eq_false_iff_ne.mpr c10
    have c10b1 : (a1 != 0) = true := bne_iff_ne.mpr c10
    simp only [Option.some.injEq,Prod.mk.injEq] at H
    obtain ⟨rfl,rfl,rfl⟩ := H
    go_enter Try.func54,Try.ntmps54
    go_wp2_with (first | ((with_reducible refine kz (f := 122) rfl ?_);refine goesL_ (some 9) rfl rfl Try.func122 (by kernel_rfl) rfl #[.pointer (some ⟨g,0,none⟩)] rfl (by (try simp only [List.map_toArray,List.map_cons,List.map_nil]);first | done | rfl | (simp only [List.length_drop,List.length_take];rfl)) ?_;(with_reducible refine (qzv.calls g s0_0 s0_1 s0_2 t101 t102 t103 w0 _ ?side1 ?side2 A4.out).mono ?_);(case side1 => repeat (first | (with_reducible first | exact HI0.out | apply vq.alloc | apply vq.drewN | apply vq.drew | apply vq.set_1 | apply vq.set_2) | exact HI0.out));(case side2 => repeat (first | (with_reducible first | exact HB.out | apply qj | apply qz | apply qk | refine qx ?_ (vq.ge HI0.out)) | exact HB.out));rintro e w11 ⟨rfl,hi,hb,hk⟩;refine ⟨_,rfl,?_⟩;have n0_ := qq.mk (zk.trans (by repeat (first | (with_reducible first | exact HK.out | apply zk.set_ | apply jj | apply jv | apply jk) | exact HK.out)) hk (.inl rfl));have n1_ := qq.mk (hb);have n2_ := qq.mk (hi);clear HK;clear HB;clear HI0;have HK := n0_;have HB := n1_;have HI0 := n2_;clear n0_ n1_ n2_;(try clear hb);(try clear hb2);(try clear hk);(try clear hi)))
    go_ret
    exact ⟨by first | rfl | (simp [*,jx,jw] <;> rfl),by repeat (first | (with_reducible first | exact HI0.out | apply vq.alloc | apply vq.drewN | apply vq.drew | apply vq.set_1 | apply vq.set_2) | exact HI0.out),by repeat (first | (with_reducible first | exact HB.out | apply qj | apply qz | apply qk | refine qx ?_ (vq.ge HI0.out)) | exact HB.out),by repeat (first | (with_reducible first | exact HK.out | apply zk.set_ | apply jj | apply jv | apply jk) | exact HK.out)⟩
def qzx.f (s0_0 : List Int) (s0_1 : Int) (s0_2 : Int) (l1 : List ByteArray) : Option (ByteArray × Int × Int) := (qjz.f s0_0 s0_1 s0_2 (l1.length : Int)).bind fun bt101 => (if 0 ≤ bt101.1 then (if bt101.1 < (l1.length : Int) then (some (rdOf ByteArray.empty l1 bt101.1,bt101.2.1,bt101.2.2)) else (none)) else (none))
set_option maxHeartbeats 8000000 in
set_option maxRecDepth 100000 in
theorem qzx.calls (g : Nat) (s0_0 : List Int) (s0_1 : Int) (s0_2 : Int) (A1 : Option Addr) (c1 : Nat) (l1 : List ByteArray) (r1 : ByteArray) (r2 : Int) (r3 : Int) (w0 w : World) (hI : vq w0 w g s0_0 s0_1 s0_2) (hB : Below w0.heap.size w0 w) (hr1 : Kd.C Kd.string w A1 l1.length l1) (hc1 : l1.length ≤ c1) (hf1 : ∀ ad,A1 = some ad → 0 < l1.length → ad.block ≠ g) (h : qzx.f s0_0 s0_1 s0_2 l1 = some (r1,r2,r3)) :
  Calls Try.prog 55 #[.pointer (some ⟨g,0,none⟩),.slice A1 l1.length c1] w fun e w' => e = .returned (.string r1) ∧ vq w0 w' g s0_0 r2 r3 ∧ Below w0.heap.size w0 w' ∧ zk w w' g none := by
 have HR1 := qq.mk hr1
 have HC1 := qq.mk hc1
 clear hr1 hc1
 have HI0 := qq.mk hI
 have HK := qq.mk (zk.refl w g none)
 have HL := qq.mk hB.size
 clear hI
 have HW0 := qq.mk hB.size
 have HB := qq.mk hB
 clear hB
 have H : ((qjz.f s0_0 s0_1 s0_2 (l1.length : Int)).bind fun bt101 => (if 0 ≤ bt101.1 then (if bt101.1 < (l1.length : Int) then (some (rdOf ByteArray.empty l1 bt101.1,bt101.2.1,bt101.2.2)) else (none)) else (none))) = some (r1,r2,r3) := h
 clear h
 replace H := Option.bind_eq_some_iff.mp H
 obtain ⟨⟨t101,t102,t103⟩,A30,H⟩ := H
 replace H : (if 0 ≤ t101 then (if t101 < (l1.length : Int) then (some (rdOf ByteArray.empty l1 t101,t102,t103)) else (none)) else (none)) = some (r1,r2,r3) := H
 have A3 := qq.mk A30
 clear A30
 by_cases c4 : 0 ≤ t101
 ·rw [if_pos c4] at H
  have c4b0 : decide (0 ≤ t101) = true := decide_eq_true c4
  clear c4
  by_cases c5 : t101 < (l1.length : Int)
  ·rw [if_pos c5] at H
   have c5b0 : decide (t101 < (l1.length : Int)) = true := decide_eq_true c5
   clear c5
   simp only [Option.some.injEq,Prod.mk.injEq] at H
   obtain ⟨rfl,rfl,rfl⟩ := H
   go_enter Try.func55,Try.ntmps55
   go_wp2_with (first | ((with_reducible refine kz (f := 54) rfl ?_);refine goesL_ (some 9) rfl rfl Try.func54 (by kernel_rfl) rfl #[.pointer (some ⟨g,0,none⟩),.int .i64 (l1.length : Int)] rfl (by (try simp only [List.map_toArray,List.map_cons,List.map_nil]);first | done | rfl | (simp only [List.length_drop,List.length_take];rfl)) ?_;(with_reducible refine (qjz.calls g s0_0 s0_1 s0_2 (l1.length : Int) t101 t102 t103 w0 _ ?side1 ?side2 A3.out).mono ?_);(case side1 => repeat (first | (with_reducible first | exact HI0.out | apply vq.alloc | apply vq.drewN | apply vq.drew | apply vq.set_1 | apply vq.set_2) | exact HI0.out));(case side2 => repeat (first | (with_reducible first | exact HB.out | apply qj | apply qz | apply qk | refine qx ?_ (vq.ge HI0.out)) | exact HB.out));rintro e w6 ⟨rfl,hi,hb,hk⟩;refine ⟨_,rfl,?_⟩;have n0_ := qq.mk (zk.trans (by repeat (first | (with_reducible first | exact HK.out | apply zk.set_ | apply jj | apply jv | apply jk) | exact HK.out)) hk (.inl rfl));have n1_ := qq.mk (hb);have n2_ := qq.mk (hi);clear HK;clear HB;clear HI0;have HK := n0_;have HB := n1_;have HI0 := n2_;clear n0_ n1_ n2_;(try clear hb);(try clear hb2);(try clear hk);(try clear hi);have p104 : 0 ≤ (t101 : Int) := of_decide_eq_true (by assumption);have q104 : t101 < (l1.length : Int) := of_decide_eq_true (by assumption);obtain ⟨ad104,e104,hx104_0⟩ := Kd.at_string HR1.out t101 p104 q104;cases e104;replace hx104_0 := keep_cell HK.out hx104_0 (by first | (rw [add_block];exact hf1 _ rfl (by omega)) | exact hf1 _ rfl (by omega) | exact hf1 ad104 rfl (by omega));replace p104 := eq_true p104;replace q104 := eq_true q104))
   go_ret
   exact ⟨by first | rfl | (simp [*,jx,jw] <;> rfl),by repeat (first | (with_reducible first | exact HI0.out | apply vq.alloc | apply vq.drewN | apply vq.drew | apply vq.set_1 | apply vq.set_2) | exact HI0.out),by repeat (first | (with_reducible first | exact HB.out | apply qj | apply qz | apply qk | refine qx ?_ (vq.ge HI0.out)) | exact HB.out),by repeat (first | (with_reducible first | exact HK.out | apply zk.set_ | apply jj | apply jv | apply jk) | exact HK.out)⟩
  ·rw [if_neg c5] at H
   exact absurd H (by simp)
 ·rw [if_neg c4] at H
  exact absurd H (by simp)
def qjq.f (s0_0 : List Int) (s0_1 : Int) (s0_2 : Int) (a1 : Int) : Option (Bool × Int × Int) := (qjz.f s0_0 s0_1 s0_2 a1).bind fun bt101 => (some ((bt101.1 == 0),bt101.2.1,bt101.2.2))
set_option maxHeartbeats 8000000 in
set_option maxRecDepth 100000 in
theorem qjq.calls (g : Nat) (s0_0 : List Int) (s0_1 : Int) (s0_2 : Int) (a1 : Int) (r1 : Bool) (r2 : Int) (r3 : Int) (w0 w : World) (hI : vq w0 w g s0_0 s0_1 s0_2) (hB : Below w0.heap.size w0 w) (h : qjq.f s0_0 s0_1 s0_2 a1 = some (r1,r2,r3)) :
  Calls Try.prog 68 #[.pointer (some ⟨g,0,none⟩),.int .i64 a1] w fun e w' => e = .returned (.bool r1) ∧ vq w0 w' g s0_0 r2 r3 ∧ Below w0.heap.size w0 w' ∧ zk w w' g none := by
 have HI0 := qq.mk hI
 have HK := qq.mk (zk.refl w g none)
 have HL := qq.mk hB.size
 clear hI
 have HW0 := qq.mk hB.size
 have HB := qq.mk hB
 clear hB
 have H : ((qjz.f s0_0 s0_1 s0_2 a1).bind fun bt101 => (some ((bt101.1 == 0),bt101.2.1,bt101.2.2))) = some (r1,r2,r3) := h
 clear h
 replace H := Option.bind_eq_some_iff.mp H
 obtain ⟨⟨t101,t102,t103⟩,A30,H⟩ := H
 replace H : (some ((t101 == 0),t102,t103)) = some (r1,r2,r3) := H
 have A3 := qq.mk A30
 clear A30
 simp only [Option.some.injEq,Prod.mk.injEq] at H
 obtain ⟨rfl,rfl,rfl⟩ := H
 go_enter Try.func68,Try.ntmps68
 go_wp2_with (first | ((with_reducible refine kz (f := 54) rfl ?_);refine goesL_ (some 7) rfl rfl Try.func54 (by kernel_rfl) rfl #[.pointer (some ⟨g,0,none⟩),.int .i64 a1] rfl (by (try simp only [List.map_toArray,List.map_cons,List.map_nil]);first | done | rfl | (simp only [List.length_drop,List.length_take];rfl)) ?_;(with_reducible refine (qjz.calls g s0_0 s0_1 s0_2 a1 t101 t102 t103 w0 _ ?side1 ?side2 A3.out).mono ?_);(case side1 => repeat (first | (with_reducible first | exact HI0.out | apply vq.alloc | apply vq.drewN | apply vq.drew | apply vq.set_1 | apply vq.set_2) | exact HI0.out));(case side2 => repeat (first | (with_reducible first | exact HB.out | apply qj | apply qz | apply qk | refine qx ?_ (vq.ge HI0.out)) | exact HB.out));rintro e w4 ⟨rfl,hi,hb,hk⟩;refine ⟨_,rfl,?_⟩;have n0_ := qq.mk (zk.trans (by repeat (first | (with_reducible first | exact HK.out | apply zk.set_ | apply jj | apply jv | apply jk) | exact HK.out)) hk (.inl rfl));have n1_ := qq.mk (hb);have n2_ := qq.mk (hi);clear HK;clear HB;clear HI0;have HK := n0_;have HB := n1_;have HI0 := n2_;clear n0_ n1_ n2_;(try clear hb);(try clear hb2);(try clear hk);(try clear hi)))
 go_ret
 exact ⟨by first | rfl | (simp [*,jx,jw] <;> rfl),by repeat (first | (with_reducible first | exact HI0.out | apply vq.alloc | apply vq.drewN | apply vq.drew | apply vq.set_1 | apply vq.set_2) | exact HI0.out),by repeat (first | (with_reducible first | exact HB.out | apply qj | apply qz | apply qk | refine qx ?_ (vq.ge HI0.out)) | exact HB.out),by repeat (first | (with_reducible first | exact HK.out | apply zk.set_ | apply jj | apply jv | apply jk) | exact HK.out)⟩
def qzk.j0 : Nat → List (S122) → List Int → Int → Int → Option ((List (S122)) × Int × Int)
 | 0,_,_,_,_ => none
 | k + 1,x3,x1000,x1001,x1002 => (qjq.f x1000 x1001 x1002 3).bind fun bt113 => (if bt113.1 = true then (if x3.length < 4398046511104 then (some ((x3 ++ [(⟨(⟨#[111]⟩ : ByteArray),(⟨#[111,114,103]⟩ : ByteArray)⟩ : S122)]),bt113.2.1,bt113.2.2)) else (none)) else ((qzx.f x1000 bt113.2.1 bt113.2.2 (([(⟨#[108,97,98]⟩ : ByteArray),(⟨#[115,97,108,101,115]⟩ : ByteArray)] : List ByteArray))).bind fun bt122 => (if x3.length < 4398046511104 then ((some (x3 ++ [(⟨(⟨#[111,117]⟩ : ByteArray),bt122.1⟩ : S122)] : List (S122))).bind fun y125 => (if y125.length < 4398046511104 then (some ((y125 ++ [(⟨(⟨#[111]⟩ : ByteArray),(⟨#[111,114,103]⟩ : ByteArray)⟩ : S122)]),bt122.2.1,bt122.2.2)) else (none))) else (none))))
def qzk.f (k : Nat) (s0_0 : List Int) (s0_1 : Int) (s0_2 : Int) : Option ((List (S122)) × Int × Int) := (qjq.f s0_0 s0_1 s0_2 4).bind fun bt101 => (if bt101.1 = true then (qzk.j0 k ([] : List (S122)) s0_0 bt101.2.1 bt101.2.2) else ((qzx.f s0_0 bt101.2.1 bt101.2.2 (([(⟨#[97,110,110]⟩ : ByteArray),(⟨#[98,111,98]⟩ : ByteArray),(⟨#[67,121]⟩ : ByteArray),(⟨#[100,44,101]⟩ : ByteArray),(⟨#[92,102]⟩ : ByteArray)] : List ByteArray))).bind fun bt107 => (if ([] : List (S122)).length < 4398046511104 then (qzk.j0 k (([] : List (S122)) ++ [(⟨(⟨#[99,110]⟩ : ByteArray),bt107.1⟩ : S122)]) s0_0 bt107.2.1 bt107.2.2) else (none))))
set_option maxHeartbeats 8000000 in
set_option maxRecDepth 100000 in
theorem qzk.calls (k : Nat) (g : Nat) (s0_0 : List Int) (s0_1 : Int) (s0_2 : Int) (r1 : List (S122)) (r2 : Int) (r3 : Int) (w0 w : World) (hI : vq w0 w g s0_0 s0_1 s0_2) (hB : Below w0.heap.size w0 w) (h : qzk.f k s0_0 s0_1 s0_2 = some (r1,r2,r3)) :
  Calls Try.prog 100 #[.pointer (some ⟨g,0,none⟩)] w fun e w' => ∃ v0_ : Value,e = .returned (v0_) ∧ Kd.R k122 122 w' w.heap.size (fun _ => True) v0_ r1 ∧ vq w0 w' g s0_0 r2 r3 ∧ Below w0.heap.size w0 w' ∧ zk w w' g none := by
 have hu122 := Try.underlying122
 have HI0 := qq.mk hI
 have HK := qq.mk (zk.refl w g none)
 have HL := qq.mk hB.size
 clear hI
 have HW0 := qq.mk hB.size
 have HB := qq.mk hB
 clear hB
 have H : ((qjq.f s0_0 s0_1 s0_2 4).bind fun bt101 => (if bt101.1 = true then (qzk.j0 k ([] : List (S122)) s0_0 bt101.2.1 bt101.2.2) else ((qzx.f s0_0 bt101.2.1 bt101.2.2 (([(⟨#[97,110,110]⟩ : ByteArray),(⟨#[98,111,98]⟩ : ByteArray),(⟨#[67,121]⟩ : ByteArray),(⟨#[100,44,101]⟩ : ByteArray),(⟨#[92,102]⟩ : ByteArray)] : List ByteArray))).bind fun bt107 => (if ([] : List (S122)).length < 4398046511104 then (qzk.j0 k (([] : List (S122)) ++ [(⟨(⟨#[99,110]⟩ : ByteArray),bt107.1⟩ : S122)]) s0_0 bt107.2.1 bt107.2.2) else (none))))) = some (r1,r2,r3) := h
 clear h
 replace H := Option.bind_eq_some_iff.mp H
 obtain ⟨⟨t101,t102,t103⟩,A20,H⟩ := H
 replace H : (if t101 = true then (qzk.j0 k ([] : List (S122)) s0_0 t102 t103) else ((qzx.f s0_0 t102 t103 (([(⟨#[97,110,110]⟩ : ByteArray),(⟨#[98,111,98]⟩ : ByteArray),(⟨#[67,121]⟩ : ByteArray),(⟨#[100,44,101]⟩ : ByteArray),(⟨#[92,102]⟩ : ByteArray)] : List ByteArray))).bind fun bt107 => (if ([] : List (S122)).length < 4398046511104 then (qzk.j0 k (([] : List (S122)) ++ [(⟨(⟨#[99,110]⟩ : ByteArray),bt107.1⟩ : S122)]) s0_0 bt107.2.1 bt107.2.2) else (none)))) = some (r1,r2,r3) := H
 have A2 := qq.mk A20
 clear A20
 have HC3 := qq.mk H
 clear H
 go_enter Try.func100,Try.ntmps100
 go_upto_if 6 with (first | ((with_reducible refine kz (f := 68) rfl ?_);refine goesL_ (some 5) rfl rfl Try.func68 (by kernel_rfl) rfl #[.pointer (some ⟨g,0,none⟩),.int .i64 4] rfl (by (try simp only [List.map_toArray,List.map_cons,List.map_nil]);first | done | rfl | (simp only [List.length_drop,List.length_take];rfl)) ?_;(with_reducible refine (qjq.calls g s0_0 s0_1 s0_2 4 t101 t102 t103 w0 _ ?side1 ?side2 A2.out).mono ?_);(case side1 => repeat (first | (with_reducible first | exact HI0.out | apply vq.alloc | apply vq.drewN | apply vq.drew | apply vq.set_1 | apply vq.set_2) | exact HI0.out));(case side2 => repeat (first | (with_reducible first | exact HB.out | apply qj | apply qz | apply qk | refine qx ?_ (vq.ge HI0.out)) | exact HB.out));rintro e w4 ⟨rfl,hi,hb,hk⟩;refine ⟨_,rfl,?_⟩;have n0_ := qq.mk (zk.trans (by repeat (first | (with_reducible first | exact HK.out | apply zk.set_ | apply jj | apply jv | apply jk) | exact HK.out)) hk (.inl rfl));have n1_ := qq.mk (hb);have n2_ := qq.mk (hi);clear HK;clear HB;clear HI0;have HK := n0_;have HB := n1_;have HI0 := n2_;clear n0_ n1_ n2_;(try clear hb);(try clear hb2);(try clear hk);(try clear hi)))
 (try simp only [Act.put,List.setIfInBounds_toArray,List.set_cons_zero,List.set_cons_succ])
 go_cut [3] (fun v3 wc => ∃ (kq : Nat) (x3_2 : List (S122)) (x1001_2 : Int) (x1002_2 : Int),qq (qzk.j0 kq x3_2 s0_0 x1001_2 x1002_2 = some (r1,r2,r3)) ∧ qq (kq ≤ k) ∧ qq (Kd.R k122 122 wc w.heap.size (fun _ => True) v3 x3_2) ∧ qq (vq w0 wc g s0_0 x1001_2 x1002_2) ∧ qq (zk w wc g none) ∧ qq (Below w0.heap.size w0 wc))
 case first =>
  have H := HC3.out
  clear HC3
  by_cases c5 : t101 = true
  ·subst c5
   have H1 : (qzk.j0 k ([] : List (S122)) s0_0 t102 t103) = some (r1,r2,r3) := by rw [if_pos rfl] at H;exact H
   clear H
   have H := H1
   clear H1
   have H' := qq.mk H
   clear H
   go_wp2
   go_meet
   case rel => exact ⟨_,(([] : List (S122))),(t102),(t103),H',⟨by first | omega | exact Nat.le_refl _⟩,⟨by first | exact Kd.R_nil _ _ _ _ _ | exact Kd.N_nil _ _ _ _ _ | exact Kd.V_nil _ _ _ _ _ | exact Kd.Q_nil _ _ _ _ _ | exact Kd.S_nil _ _ _ _ _⟩,⟨by repeat (first | (with_reducible first | exact HI0.out | apply vq.alloc | apply vq.drewN | apply vq.drew | apply vq.set_1 | apply vq.set_2) | exact HI0.out)⟩,⟨by repeat (first | (with_reducible first | exact HK.out | apply zk.set_ | apply jj | apply jv | apply jk) | exact HK.out)⟩,⟨by repeat (first | (with_reducible first | exact HB.out | apply qj | apply qz | apply qk | refine qx ?_ (vq.ge HI0.out)) | exact HB.out)⟩⟩
  ·replace c5 := Bool.eq_false_iff.mpr c5
   subst c5
   have H1 : ((qzx.f s0_0 t102 t103 (([(⟨#[97,110,110]⟩ : ByteArray),(⟨#[98,111,98]⟩ : ByteArray),(⟨#[67,121]⟩ : ByteArray),(⟨#[100,44,101]⟩ : ByteArray),(⟨#[92,102]⟩ : ByteArray)] : List ByteArray))).bind fun bt107 => (if ([] : List (S122)).length < 4398046511104 then (qzk.j0 k (([] : List (S122)) ++ [(⟨(⟨#[99,110]⟩ : ByteArray),bt107.1⟩ : S122)]) s0_0 bt107.2.1 bt107.2.2) else (none))) = some (r1,r2,r3) := by rw [if_neg (show ¬ (false = true) by decide)] at H;exact H
   clear H
   have H := H1
   clear H1
   obtain ⟨y104,hy104⟩ : ∃ y_ : List ByteArray,y_ = (([(⟨#[97,110,110]⟩ : ByteArray),(⟨#[98,111,98]⟩ : ByteArray),(⟨#[67,121]⟩ : ByteArray),(⟨#[100,44,101]⟩ : ByteArray),(⟨#[92,102]⟩ : ByteArray)] : List ByteArray)) := ⟨_,rfl⟩
   replace H : ((qzx.f s0_0 t102 t103 y104).bind fun bt107 => (if ([] : List (S122)).length < 4398046511104 then (qzk.j0 k (([] : List (S122)) ++ [(⟨(⟨#[99,110]⟩ : ByteArray),bt107.1⟩ : S122)]) s0_0 bt107.2.1 bt107.2.2) else (none))) = some (r1,r2,r3) := by first | (rw [hy104];with_reducible exact H) | (have H2_ := (Option.bind_some _ _).symm.trans H;rw [hy104];with_reducible exact H2_) | (have H2_ := (Option.bind_some _ _).symm.trans H;with_reducible exact H2_) | with_reducible exact H | (rw [hy104];exact H) | exact H
   have Ny104 := qq.mk hy104
   clear hy104
   replace H := Option.bind_eq_some_iff.mp H
   obtain ⟨⟨t107,t108,t109⟩,A60,H⟩ := H
   replace H : (if ([] : List (S122)).length < 4398046511104 then (qzk.j0 k (([] : List (S122)) ++ [(⟨(⟨#[99,110]⟩ : ByteArray),t107⟩ : S122)]) s0_0 t108 t109) else (none)) = some (r1,r2,r3) := H
   have A6 := qq.mk A60
   clear A60
   by_cases c7 : ([] : List (S122)).length < 4398046511104
   ·rw [if_pos c7] at H
    have LMc7 := qq.mk c7
    clear c7
    obtain ⟨y110,hy110⟩ : ∃ y_ : List (S122),y_ = (([] : List (S122)) ++ [(⟨(⟨#[99,110]⟩ : ByteArray),t107⟩ : S122)]) := ⟨_,rfl⟩
    replace H : (qzk.j0 k y110 s0_0 t108 t109) = some (r1,r2,r3) := by first | (rw [hy110];with_reducible exact H) | (have H2_ := (Option.bind_some _ _).symm.trans H;rw [hy110];with_reducible exact H2_) | (have H2_ := (Option.bind_some _ _).symm.trans H;with_reducible exact H2_) | with_reducible exact H | (rw [hy110];exact H) | exact H
    have Ny110 := qq.mk hy110
    clear hy110
    have H' := qq.mk H
    clear H
    go_wp2_with (first | ((with_reducible refine gate_dst (N := 9) rfl ?_);refine Kd.R_lit Kd.string _ 9 ?hg (N := 9) ?hd (xs := ([(⟨#[97,110,110]⟩ : ByteArray),(⟨#[98,111,98]⟩ : ByteArray),(⟨#[67,121]⟩ : ByteArray),(⟨#[100,44,101]⟩ : ByteArray),(⟨#[92,102]⟩ : ByteArray)] : List ByteArray)) (inner := [.string (⟨#[97,110,110]⟩ : ByteArray),.string (⟨#[98,111,98]⟩ : ByteArray),.string (⟨#[67,121]⟩ : ByteArray),.string (⟨#[100,44,101]⟩ : ByteArray),.string (⟨#[92,102]⟩ : ByteArray)]) (ok := fun _ => True) (okp := fun _ => True) ?hr ?hp (fun _ hk => hk) trivial (Below.refl _ _) (Nat.le_refl _) (by simp) ?_;(case hd => rfl);(case hg => rfl);(case hr => first | (go_simp;done) | (go_simp;rfl));(case hp => exact (Reps.one (show Kd.M Kd.string _ _ _ (⟨#[97,110,110]⟩ : ByteArray) [.string (⟨#[97,110,110]⟩ : ByteArray)] from rfl) (Reps.one (show Kd.M Kd.string _ _ _ (⟨#[98,111,98]⟩ : ByteArray) [.string (⟨#[98,111,98]⟩ : ByteArray)] from rfl) (Reps.one (show Kd.M Kd.string _ _ _ (⟨#[67,121]⟩ : ByteArray) [.string (⟨#[67,121]⟩ : ByteArray)] from rfl) (Reps.one (show Kd.M Kd.string _ _ _ (⟨#[100,44,101]⟩ : ByteArray) [.string (⟨#[100,44,101]⟩ : ByteArray)] from rfl) (Reps.one (show Kd.M Kd.string _ _ _ (⟨#[92,102]⟩ : ByteArray) [.string (⟨#[92,102]⟩ : ByteArray)] from rfl) (Reps.none _ _)))))));intro v105 w8 ho9 hb hg_ hnew_;clear hg_ hnew_;(first | rw [← Ny104.out] at ho9 | (simp only [Int.reduceToNat] at ho9;rw [← Ny104.out] at ho9));have n0_ := qq.mk (Kd.R_lower ho9 (keep_size (w := w) (g := g) (row := none) (by repeat (first | (with_reducible first | exact HK.out | apply zk.set_ | apply jj | apply jv | apply jk) | exact HK.out))));have n1_ := qq.mk (vq.below (by repeat (first | (with_reducible first | exact HI0.out | apply vq.alloc | apply vq.drewN | apply vq.drew | apply vq.set_1 | apply vq.set_2) | exact HI0.out)) hb);have n2_ := qq.mk (zk.trans (by repeat (first | (with_reducible first | exact HK.out | apply zk.set_ | apply jj | apply jv | apply jk) | exact HK.out)) (zk.of_below hb g none) (.inl rfl));have n3_ := qq.mk (zv (by repeat (first | (with_reducible first | exact HB.out | apply qj | apply qz | apply qk | refine qx ?_ (vq.ge HI0.out)) | exact HB.out)) hb);clear HI0;clear HK;clear HB;have HO106 := n0_;have HI0 := n1_;have HK := n2_;have HB := n3_;clear n0_ n1_ n2_ n3_;clear hb ho9;obtain ⟨Ao10,co10,eo10⟩ := Kd.R_slice HO106.out;subst eo10) | ((with_reducible refine kz (f := 55) rfl ?_);refine goesL_ (some 10) rfl rfl Try.func55 (by kernel_rfl) rfl #[.pointer (some ⟨g,0,none⟩),.slice Ao10 y104.length co10] rfl (by (try simp only [List.map_toArray,List.map_cons,List.map_nil]);first | done | rfl | (simp only [List.length_drop,List.length_take];rfl)) ?_;(with_reducible refine (qzx.calls g s0_0 t102 t103 _ _ y104 t107 t108 t109 w0 _ ?side1 ?side2 ?side3 ?side4 ?side5 A6.out).mono ?_);(case side1 => repeat (first | (with_reducible first | exact HI0.out | apply vq.alloc | apply vq.drewN | apply vq.drew | apply vq.set_1 | apply vq.set_2) | exact HI0.out));(case side2 => repeat (first | (with_reducible first | exact HB.out | apply qj | apply qz | apply qk | refine qx ?_ (vq.ge HI0.out)) | exact HB.out));(case side3 => repeat (first | exact (Kd.R_reads' HO106.out).2.2 | (with_reducible refine Kd.C_alloc ?_ _) | (with_reducible refine Kd.C_drewN ?_ _) | (with_reducible refine Kd.C_drew ?_)));(case side4 => exact (Kd.R_reads' HO106.out).2.1);(case side5 => exact far_slice (vq.own_ne HI0.out HO106.out (by decide)));rintro e w11 ⟨rfl,hi,hb,hk⟩;refine ⟨_,rfl,?_⟩;have n0_ := qq.mk (Kd.R_mono (Kd.R_keep (vq.apart (show vq w0 _ g s0_0 t102 t103 from by repeat (first | (with_reducible first | exact HI0.out | apply vq.alloc | apply vq.drewN | apply vq.drew | apply vq.set_1 | apply vq.set_2) | exact HI0.out)) (by (with_reducible repeat (first | apply Kd.jq | apply Kd.zx | apply Kd.jz));exact HO106.out) (by decide)) hk (fun _ h => h.2)) (fun _ h => h.1));have n1_ := qq.mk (zk.trans (by repeat (first | (with_reducible first | exact HK.out | apply zk.set_ | apply jj | apply jv | apply jk) | exact HK.out)) hk (.inl rfl));have n2_ := qq.mk (hb);have n3_ := qq.mk (hi);clear HO106;clear HK;clear HB;clear HI0;have HO106 := n0_;have HK := n1_;have HB := n2_;have HI0 := n3_;clear n0_ n1_ n2_ n3_;(try clear hb);(try clear hb2);(try clear hk);(try clear hi)) | ((with_reducible refine gate_builtin (b := .append) (xs := #[.tmp 7,.tmp 12]) rfl ?_);at_builtin;refine Kd.R_append k122 w.heap.size rfl (.tmp 7) (.tmp 12) 62 122 (.agg #[(.string ⟨#[]⟩),(.string ⟨#[]⟩)]) 32 rfl Try.underlying62 info122 rfl (by decide) (by omega) (.slice none 0 0) ([] : List (S122)) (⟨(⟨#[99,110]⟩ : ByteArray),t107⟩ : S122) [.string (⟨#[99,110]⟩ : ByteArray),.string t107] (fun _ => True) (fun _ => False) rfl rfl ?aP (fun _ hk => hk.elim) ?aF ?aO (Below.refl _ _) ?aS ?aL ?_;(case aP => exact k122_mkM _ _ _ (⟨(⟨#[99,110]⟩ : ByteArray),t107⟩ : S122));(case aF => exact (fun _ _ => trivial));(case aO => exact ((Kd.R_nil _ _ _ _ (fun _ => True))));(case aS => exact (keep_size (w := w) (g := g) (row := none) (by repeat (first | (with_reducible first | exact HK.out | apply zk.set_ | apply jj | apply jv | apply jk) | exact HK.out))));(case aL => have := LMc7.out;omega);intro v111 w12 ho hb hg hat;rw [← Ny110.out] at ho;have n0_ := qq.mk (vq.grown (by repeat (first | (with_reducible first | exact HI0.out | apply vq.alloc | apply vq.drewN | apply vq.drew | apply vq.set_1 | apply vq.set_2) | exact HI0.out)) hg (by simp [Value.ownBlock]));have n1_ := qq.mk (Kd.R_grown (by (with_reducible repeat (first | apply Kd.jq | apply Kd.zx | apply Kd.jz));exact HO106.out) hg (fun _ _ => by simp [Value.ownBlock]));have n2_ := qq.mk (below_weaken (by repeat (first | (with_reducible first | exact HB.out | apply qj | apply qz | apply qk | refine qx ?_ (vq.ge HI0.out)) | exact HB.out)) HL.out hb);have n3_ := qq.mk (zk.trans (by repeat (first | (with_reducible first | exact HK.out | apply zk.set_ | apply jj | apply jv | apply jk) | exact HK.out)) (zk.of_grown hg g) (.inl (by simp [Value.ownBlock])));have n4_ := qq.mk (ho);clear HI0;clear HO106;clear HB;clear HK;have HI0 := n0_;have HO106 := n1_;have HB := n2_;have HK := n3_;have HO112 := n4_;clear n0_ n1_ n2_ n3_ n4_;clear ho hb hg hat))
    go_meet
    case rel => exact ⟨_,(y110),(t108),(t109),H',⟨by first | omega | exact Nat.le_refl _⟩,⟨by (with_reducible repeat (first | apply Kd.jq | apply Kd.zx | apply Kd.jz));exact HO112.out⟩,⟨by repeat (first | (with_reducible first | exact HI0.out | apply vq.alloc | apply vq.drewN | apply vq.drew | apply vq.set_1 | apply vq.set_2) | exact HI0.out)⟩,⟨by repeat (first | (with_reducible first | exact HK.out | apply zk.set_ | apply jj | apply jv | apply jk) | exact HK.out)⟩,⟨by repeat (first | (with_reducible first | exact HB.out | apply qj | apply qz | apply qk | refine qx ?_ (vq.ge HI0.out)) | exact HB.out)⟩⟩
   ·rw [if_neg c7] at H
    exact absurd H (by simp)
 case rest =>
  clear HC3
  try clear c1
  try clear p2
  try clear c5
  try clear c6
  try clear c7
  try clear c10
  obtain ⟨kq,x3_2,x1001_2,x1002_2,HA,HJ2,HO_3,HI0,HK,HB⟩ := hcut
  cases kq with
  | zero => exact absurd HA.out (by simp [qzk.j0])
  | succ kj2 =>
   have H := HA.out
   clear HA
   simp only [qzk.j0] at H
   replace H := Option.bind_eq_some_iff.mp H
   obtain ⟨⟨t113,t114,t115⟩,A130,H⟩ := H
   replace H : (if t113 = true then (if x3_2.length < 4398046511104 then (some ((x3_2 ++ [(⟨(⟨#[111]⟩ : ByteArray),(⟨#[111,114,103]⟩ : ByteArray)⟩ : S122)]),t114,t115)) else (none)) else ((qzx.f s0_0 t114 t115 (([(⟨#[108,97,98]⟩ : ByteArray),(⟨#[115,97,108,101,115]⟩ : ByteArray)] : List ByteArray))).bind fun bt122 => (if x3_2.length < 4398046511104 then ((some (x3_2 ++ [(⟨(⟨#[111,117]⟩ : ByteArray),bt122.1⟩ : S122)] : List (S122))).bind fun y125 => (if y125.length < 4398046511104 then (some ((y125 ++ [(⟨(⟨#[111]⟩ : ByteArray),(⟨#[111,114,103]⟩ : ByteArray)⟩ : S122)]),bt122.2.1,bt122.2.2)) else (none))) else (none)))) = some (r1,r2,r3) := H
   have A13 := qq.mk A130
   clear A130
   by_cases c14 : t113 = true
   ·subst c14
    have H1 : (if x3_2.length < 4398046511104 then (some ((x3_2 ++ [(⟨(⟨#[111]⟩ : ByteArray),(⟨#[111,114,103]⟩ : ByteArray)⟩ : S122)]),t114,t115)) else (none)) = some (r1,r2,r3) := by rw [if_pos rfl] at H;exact H
    clear H
    have H := H1
    clear H1
    by_cases c15 : x3_2.length < 4398046511104
    ·rw [if_pos c15] at H
     have LMc15 := qq.mk c15
     clear c15
     obtain ⟨y116,hy116⟩ : ∃ y_ : List (S122),y_ = (x3_2 ++ [(⟨(⟨#[111]⟩ : ByteArray),(⟨#[111,114,103]⟩ : ByteArray)⟩ : S122)]) := ⟨_,rfl⟩
     replace H : (some (y116,t114,t115)) = some (r1,r2,r3) := by first | (rw [hy116];with_reducible exact H) | (have H2_ := (Option.bind_some _ _).symm.trans H;rw [hy116];with_reducible exact H2_) | (have H2_ := (Option.bind_some _ _).symm.trans H;with_reducible exact H2_) | with_reducible exact H | (rw [hy116];exact H) | exact H
     have Ny116 := qq.mk hy116
     clear hy116
     simp only [Option.some.injEq,Prod.mk.injEq] at H
     obtain ⟨rfl,rfl,rfl⟩ := H
     go_wp2_with (first | ((with_reducible refine kz (f := 68) rfl ?_);refine goesL_ (some 15) rfl rfl Try.func68 (by kernel_rfl) rfl #[.pointer (some ⟨g,0,none⟩),.int .i64 3] rfl (by (try simp only [List.map_toArray,List.map_cons,List.map_nil]);first | done | rfl | (simp only [List.length_drop,List.length_take];rfl)) ?_;(with_reducible refine (qjq.calls g s0_0 x1001_2 x1002_2 3 true t114 t115 w0 _ ?side1 ?side2 A13.out).mono ?_);(case side1 => repeat (first | (with_reducible first | exact HI0.out | apply vq.alloc | apply vq.drewN | apply vq.drew | apply vq.set_1 | apply vq.set_2) | exact HI0.out));(case side2 => repeat (first | (with_reducible first | exact HB.out | apply qj | apply qz | apply qk | refine qx ?_ (vq.ge HI0.out)) | exact HB.out));rintro e w16 ⟨rfl,hi,hb,hk⟩;refine ⟨_,rfl,?_⟩;have n0_ := qq.mk (Kd.R_mono (Kd.R_keep (vq.apart (show vq w0 _ g s0_0 x1001_2 x1002_2 from by repeat (first | (with_reducible first | exact HI0.out | apply vq.alloc | apply vq.drewN | apply vq.drew | apply vq.set_1 | apply vq.set_2) | exact HI0.out)) (by (with_reducible repeat (first | apply Kd.jq | apply Kd.zx | apply Kd.jz));exact HO_3.out) (by decide)) hk (fun _ h => h.2)) (fun _ h => h.1));have n1_ := qq.mk (zk.trans (by repeat (first | (with_reducible first | exact HK.out | apply zk.set_ | apply jj | apply jv | apply jk) | exact HK.out)) hk (.inl rfl));have n2_ := qq.mk (hb);have n3_ := qq.mk (hi);clear HO_3;clear HK;clear HB;clear HI0;have HO_3 := n0_;have HK := n1_;have HB := n2_;have HI0 := n3_;clear n0_ n1_ n2_ n3_;(try clear hb);(try clear hb2);(try clear hk);(try clear hi)) | ((with_reducible refine gate_builtin (b := .append) (xs := #[.tmp 24,.tmp 26]) rfl ?_);at_builtin;refine Kd.R_append k122 w.heap.size rfl (.tmp 24) (.tmp 26) 62 122 (.agg #[(.string ⟨#[]⟩),(.string ⟨#[]⟩)]) 32 rfl Try.underlying62 info122 rfl (by decide) (by omega) u3 x3_2 (⟨(⟨#[111]⟩ : ByteArray),(⟨#[111,114,103]⟩ : ByteArray)⟩ : S122) [.string (⟨#[111]⟩ : ByteArray),.string (⟨#[111,114,103]⟩ : ByteArray)] (fun _ => True) (fun _ => False) rfl rfl ?aP (fun _ hk => hk.elim) ?aF ?aO (Below.refl _ _) ?aS ?aL ?_;(case aP => exact k122_mkM _ _ _ (⟨(⟨#[111]⟩ : ByteArray),(⟨#[111,114,103]⟩ : ByteArray)⟩ : S122));(case aF => exact (fun _ _ => trivial));(case aO => exact (by (with_reducible repeat (first | apply Kd.jq | apply Kd.zx | apply Kd.jz));exact HO_3.out));(case aS => exact (keep_size (w := w) (g := g) (row := none) (by repeat (first | (with_reducible first | exact HK.out | apply zk.set_ | apply jj | apply jv | apply jk) | exact HK.out))));(case aL => have := LMc15.out;omega);intro v117 w17 ho hb hg hat;rw [← Ny116.out] at ho;have n0_ := qq.mk (vq.grown (by repeat (first | (with_reducible first | exact HI0.out | apply vq.alloc | apply vq.drewN | apply vq.drew | apply vq.set_1 | apply vq.set_2) | exact HI0.out)) hg (vq.own_ne HI0.out HO_3.out (by decide)));have n1_ := qq.mk (below_weaken (by repeat (first | (with_reducible first | exact HB.out | apply qj | apply qz | apply qk | refine qx ?_ (vq.ge HI0.out)) | exact HB.out)) HL.out hb);have n2_ := qq.mk (zk.trans (by repeat (first | (with_reducible first | exact HK.out | apply zk.set_ | apply jj | apply jv | apply jk) | exact HK.out)) (zk.of_grown hg g) (Kd.R_base2 HO_3.out));have n3_ := qq.mk (ho);clear HI0;clear HB;clear HK;clear HO_3;have HI0 := n0_;have HB := n1_;have HK := n2_;have HO118 := n3_;clear n0_ n1_ n2_ n3_;clear ho hb hg hat))
     go_ret
     exact ⟨_,by first | rfl | (simp [*,jx,jw] <;> rfl),by (with_reducible repeat (first | apply Kd.jq | apply Kd.zx | apply Kd.jz));exact HO118.out,by repeat (first | (with_reducible first | exact HI0.out | apply vq.alloc | apply vq.drewN | apply vq.drew | apply vq.set_1 | apply vq.set_2) | exact HI0.out),by repeat (first | (with_reducible first | exact HB.out | apply qj | apply qz | apply qk | refine qx ?_ (vq.ge HI0.out)) | exact HB.out),by repeat (first | (with_reducible first | exact HK.out | apply zk.set_ | apply jj | apply jv | apply jk) | exact HK.out)⟩
    ·rw [if_neg c15] at H
     exact absurd H (by simp)
   ·replace c14 := Bool.eq_false_iff.mpr c14
    subst c14
    have H1 : ((qzx.f s0_0 t114 t115 (([(⟨#[108,97,98]⟩ : ByteArray),(⟨#[115,97,108,101,115]⟩ : ByteArray)] : List ByteArray))).bind fun bt122 => (if x3_2.length < 4398046511104 then ((some (x3_2 ++ [(⟨(⟨#[111,117]⟩ : ByteArray),bt122.1⟩ : S122)] : List (S122))).bind fun y125 => (if y125.length < 4398046511104 then (some ((y125 ++ [(⟨(⟨#[111]⟩ : ByteArray),(⟨#[111,114,103]⟩ : ByteArray)⟩ : S122)]),bt122.2.1,bt122.2.2)) else (none))) else (none))) = some (r1,r2,r3) := by rw [if_neg (show ¬ (false = true) by decide)] at H;exact H
    clear H
    have H := H1
    clear H1
    obtain ⟨y119,hy119⟩ : ∃ y_ : List ByteArray,y_ = (([(⟨#[108,97,98]⟩ : ByteArray),(⟨#[115,97,108,101,115]⟩ : ByteArray)] : List ByteArray)) := ⟨_,rfl⟩
    replace H : ((qzx.f s0_0 t114 t115 y119).bind fun bt122 => (if x3_2.length < 4398046511104 then ((some (x3_2 ++ [(⟨(⟨#[111,117]⟩ : ByteArray),bt122.1⟩ : S122)] : List (S122))).bind fun y125 => (if y125.length < 4398046511104 then (some ((y125 ++ [(⟨(⟨#[111]⟩ : ByteArray),(⟨#[111,114,103]⟩ : ByteArray)⟩ : S122)]),bt122.2.1,bt122.2.2)) else (none))) else (none))) = some (r1,r2,r3) := by first | (rw [hy119];with_reducible exact H) | (have H2_ := (Option.bind_some _ _).symm.trans H;rw [hy119];with_reducible exact H2_) | (have H2_ := (Option.bind_some _ _).symm.trans H;with_reducible exact H2_) | with_reducible exact H | (rw [hy119];exact H) | exact H
    have Ny119 := qq.mk hy119
    clear hy119
    replace H := Option.bind_eq_some_iff.mp H
    obtain ⟨⟨t122,t123,t124⟩,A180,H⟩ := H
    replace H : (if x3_2.length < 4398046511104 then ((some (x3_2 ++ [(⟨(⟨#[111,117]⟩ : ByteArray),t122⟩ : S122)] : List (S122))).bind fun y125 => (if y125.length < 4398046511104 then (some ((y125 ++ [(⟨(⟨#[111]⟩ : ByteArray),(⟨#[111,114,103]⟩ : ByteArray)⟩ : S122)]),t123,t124)) else (none))) else (none)) = some (r1,r2,r3) := H
    have A18 := qq.mk A180
    clear A180
    by_cases c19 : x3_2.length < 4398046511104
    ·rw [if_pos c19] at H
     have LMc19 := qq.mk c19
     clear c19
     obtain ⟨y125,hy125⟩ : ∃ y_ : List (S122),y_ = (x3_2 ++ [(⟨(⟨#[111,117]⟩ : ByteArray),t122⟩ : S122)]) := ⟨_,rfl⟩
     replace H : (if y125.length < 4398046511104 then (some ((y125 ++ [(⟨(⟨#[111]⟩ : ByteArray),(⟨#[111,114,103]⟩ : ByteArray)⟩ : S122)]),t123,t124)) else (none)) = some (r1,r2,r3) := by first | (rw [hy125];with_reducible exact H) | (have H2_ := (Option.bind_some _ _).symm.trans H;rw [hy125];with_reducible exact H2_) | (have H2_ := (Option.bind_some _ _).symm.trans H;with_reducible exact H2_) | with_reducible exact H | (rw [hy125];exact H) | exact H
     have Ny125 := qq.mk hy125
     clear hy125
     by_cases c20 : y125.length < 4398046511104
     ·rw [if_pos c20] at H
      have LMc20 := qq.mk c20
      clear c20
      obtain ⟨y128,hy128⟩ : ∃ y_ : List (S122),y_ = (y125 ++ [(⟨(⟨#[111]⟩ : ByteArray),(⟨#[111,114,103]⟩ : ByteArray)⟩ : S122)]) := ⟨_,rfl⟩
      replace H : (some (y128,t123,t124)) = some (r1,r2,r3) := by first | (rw [hy128];with_reducible exact H) | (have H2_ := (Option.bind_some _ _).symm.trans H;rw [hy128];with_reducible exact H2_) | (have H2_ := (Option.bind_some _ _).symm.trans H;with_reducible exact H2_) | with_reducible exact H | (rw [hy128];exact H) | exact H
      have Ny128 := qq.mk hy128
      clear hy128
      simp only [Option.some.injEq,Prod.mk.injEq] at H
      obtain ⟨rfl,rfl,rfl⟩ := H
      go_wp2_with (first | ((with_reducible refine kz (f := 68) rfl ?_);refine goesL_ (some 15) rfl rfl Try.func68 (by kernel_rfl) rfl #[.pointer (some ⟨g,0,none⟩),.int .i64 3] rfl (by (try simp only [List.map_toArray,List.map_cons,List.map_nil]);first | done | rfl | (simp only [List.length_drop,List.length_take];rfl)) ?_;(with_reducible refine (qjq.calls g s0_0 x1001_2 x1002_2 3 false t114 t115 w0 _ ?side1 ?side2 A13.out).mono ?_);(case side1 => repeat (first | (with_reducible first | exact HI0.out | apply vq.alloc | apply vq.drewN | apply vq.drew | apply vq.set_1 | apply vq.set_2) | exact HI0.out));(case side2 => repeat (first | (with_reducible first | exact HB.out | apply qj | apply qz | apply qk | refine qx ?_ (vq.ge HI0.out)) | exact HB.out));rintro e w21 ⟨rfl,hi,hb,hk⟩;refine ⟨_,rfl,?_⟩;have n0_ := qq.mk (Kd.R_mono (Kd.R_keep (vq.apart (show vq w0 _ g s0_0 x1001_2 x1002_2 from by repeat (first | (with_reducible first | exact HI0.out | apply vq.alloc | apply vq.drewN | apply vq.drew | apply vq.set_1 | apply vq.set_2) | exact HI0.out)) (by (with_reducible repeat (first | apply Kd.jq | apply Kd.zx | apply Kd.jz));exact HO_3.out) (by decide)) hk (fun _ h => h.2)) (fun _ h => h.1));have n1_ := qq.mk (zk.trans (by repeat (first | (with_reducible first | exact HK.out | apply zk.set_ | apply jj | apply jv | apply jk) | exact HK.out)) hk (.inl rfl));have n2_ := qq.mk (hb);have n3_ := qq.mk (hi);clear HO_3;clear HK;clear HB;clear HI0;have HO_3 := n0_;have HK := n1_;have HB := n2_;have HI0 := n3_;clear n0_ n1_ n2_ n3_;(try clear hb);(try clear hb2);(try clear hk);(try clear hi)) | ((with_reducible refine gate_dst (N := 19) rfl ?_);refine Kd.R_lit Kd.string _ 9 ?hg (N := 19) ?hd (xs := ([(⟨#[108,97,98]⟩ : ByteArray),(⟨#[115,97,108,101,115]⟩ : ByteArray)] : List ByteArray)) (inner := [.string (⟨#[108,97,98]⟩ : ByteArray),.string (⟨#[115,97,108,101,115]⟩ : ByteArray)]) (ok := fun _ => True) (okp := fun _ => True) ?hr ?hp (fun _ hk => hk) trivial (Below.refl _ _) (Nat.le_refl _) (by simp) ?_;(case hd => rfl);(case hg => rfl);(case hr => first | (go_simp;done) | (go_simp;rfl));(case hp => exact (Reps.one (show Kd.M Kd.string _ _ _ (⟨#[108,97,98]⟩ : ByteArray) [.string (⟨#[108,97,98]⟩ : ByteArray)] from rfl) (Reps.one (show Kd.M Kd.string _ _ _ (⟨#[115,97,108,101,115]⟩ : ByteArray) [.string (⟨#[115,97,108,101,115]⟩ : ByteArray)] from rfl) (Reps.none _ _))));intro v120 w22 ho23 hb hg_ hnew_;clear hg_ hnew_;(first | rw [← Ny119.out] at ho23 | (simp only [Int.reduceToNat] at ho23;rw [← Ny119.out] at ho23));have n0_ := qq.mk (Kd.R_below (by (with_reducible repeat (first | apply Kd.jq | apply Kd.zx | apply Kd.jz));exact HO_3.out) hb);have n1_ := qq.mk (Kd.R_lower ho23 (keep_size (w := w) (g := g) (row := none) (by repeat (first | (with_reducible first | exact HK.out | apply zk.set_ | apply jj | apply jv | apply jk) | exact HK.out))));have n2_ := qq.mk (vq.below (by repeat (first | (with_reducible first | exact HI0.out | apply vq.alloc | apply vq.drewN | apply vq.drew | apply vq.set_1 | apply vq.set_2) | exact HI0.out)) hb);have n3_ := qq.mk (zk.trans (by repeat (first | (with_reducible first | exact HK.out | apply zk.set_ | apply jj | apply jv | apply jk) | exact HK.out)) (zk.of_below hb g none) (.inl rfl));have n4_ := qq.mk (zv (by repeat (first | (with_reducible first | exact HB.out | apply qj | apply qz | apply qk | refine qx ?_ (vq.ge HI0.out)) | exact HB.out)) hb);clear HO_3;clear HI0;clear HK;clear HB;have HO_3 := n0_;have HO121 := n1_;have HI0 := n2_;have HK := n3_;have HB := n4_;clear n0_ n1_ n2_ n3_ n4_;clear hb ho23;obtain ⟨Ao24,co24,eo24⟩ := Kd.R_slice HO121.out;subst eo24) | ((with_reducible refine kz (f := 55) rfl ?_);refine goesL_ (some 20) rfl rfl Try.func55 (by kernel_rfl) rfl #[.pointer (some ⟨g,0,none⟩),.slice Ao24 y119.length co24] rfl (by (try simp only [List.map_toArray,List.map_cons,List.map_nil]);first | done | rfl | (simp only [List.length_drop,List.length_take];rfl)) ?_;(with_reducible refine (qzx.calls g s0_0 t114 t115 _ _ y119 t122 t123 t124 w0 _ ?side1 ?side2 ?side3 ?side4 ?side5 A18.out).mono ?_);(case side1 => repeat (first | (with_reducible first | exact HI0.out | apply vq.alloc | apply vq.drewN | apply vq.drew | apply vq.set_1 | apply vq.set_2) | exact HI0.out));(case side2 => repeat (first | (with_reducible first | exact HB.out | apply qj | apply qz | apply qk | refine qx ?_ (vq.ge HI0.out)) | exact HB.out));(case side3 => repeat (first | exact (Kd.R_reads' HO121.out).2.2 | (with_reducible refine Kd.C_alloc ?_ _) | (with_reducible refine Kd.C_drewN ?_ _) | (with_reducible refine Kd.C_drew ?_)));(case side4 => exact (Kd.R_reads' HO121.out).2.1);(case side5 => exact far_slice (vq.own_ne HI0.out HO121.out (by decide)));rintro e w25 ⟨rfl,hi,hb,hk⟩;refine ⟨_,rfl,?_⟩;have n0_ := qq.mk (Kd.R_mono (Kd.R_keep (vq.apart (show vq w0 _ g s0_0 t114 t115 from by repeat (first | (with_reducible first | exact HI0.out | apply vq.alloc | apply vq.drewN | apply vq.drew | apply vq.set_1 | apply vq.set_2) | exact HI0.out)) (by (with_reducible repeat (first | apply Kd.jq | apply Kd.zx | apply Kd.jz));exact HO_3.out) (by decide)) hk (fun _ h => h.2)) (fun _ h => h.1));have n1_ := qq.mk (Kd.R_mono (Kd.R_keep (vq.apart (show vq w0 _ g s0_0 t114 t115 from by repeat (first | (with_reducible first | exact HI0.out | apply vq.alloc | apply vq.drewN | apply vq.drew | apply vq.set_1 | apply vq.set_2) | exact HI0.out)) (by (with_reducible repeat (first | apply Kd.jq | apply Kd.zx | apply Kd.jz));exact HO121.out) (by decide)) hk (fun _ h => h.2)) (fun _ h => h.1));have n2_ := qq.mk (zk.trans (by repeat (first | (with_reducible first | exact HK.out | apply zk.set_ | apply jj | apply jv | apply jk) | exact HK.out)) hk (.inl rfl));have n3_ := qq.mk (hb);have n4_ := qq.mk (hi);clear HO_3;clear HO121;clear HK;clear HB;clear HI0;have HO_3 := n0_;have HO121 := n1_;have HK := n2_;have HB := n3_;have HI0 := n4_;clear n0_ n1_ n2_ n3_ n4_;(try clear hb);(try clear hb2);(try clear hk);(try clear hi)) | ((with_reducible refine gate_builtin (b := .append) (xs := #[.tmp 17,.tmp 22]) rfl ?_);at_builtin;refine Kd.R_append k122 w.heap.size rfl (.tmp 17) (.tmp 22) 62 122 (.agg #[(.string ⟨#[]⟩),(.string ⟨#[]⟩)]) 32 rfl Try.underlying62 info122 rfl (by decide) (by omega) u3 x3_2 (⟨(⟨#[111,117]⟩ : ByteArray),t122⟩ : S122) [.string (⟨#[111,117]⟩ : ByteArray),.string t122] (fun _ => True) (fun _ => False) rfl rfl ?aP (fun _ hk => hk.elim) ?aF ?aO (Below.refl _ _) ?aS ?aL ?_;(case aP => exact k122_mkM _ _ _ (⟨(⟨#[111,117]⟩ : ByteArray),t122⟩ : S122));(case aF => exact (fun _ _ => trivial));(case aO => exact (by (with_reducible repeat (first | apply Kd.jq | apply Kd.zx | apply Kd.jz));exact HO_3.out));(case aS => exact (keep_size (w := w) (g := g) (row := none) (by repeat (first | (with_reducible first | exact HK.out | apply zk.set_ | apply jj | apply jv | apply jk) | exact HK.out))));(case aL => have := LMc19.out;omega);intro v126 w26 ho hb hg hat;rw [← Ny125.out] at ho;have n0_ := qq.mk (vq.grown (by repeat (first | (with_reducible first | exact HI0.out | apply vq.alloc | apply vq.drewN | apply vq.drew | apply vq.set_1 | apply vq.set_2) | exact HI0.out)) hg (vq.own_ne HI0.out HO_3.out (by decide)));have n1_ := qq.mk (Kd.R_over' (by (with_reducible repeat (first | apply Kd.jq | apply Kd.zx | apply Kd.jz));exact HO121.out) (Kd.R_typed (by (with_reducible repeat (first | apply Kd.jq | apply Kd.zx | apply Kd.jz));exact HO_3.out)) (by decide) hg);have n2_ := qq.mk (below_weaken (by repeat (first | (with_reducible first | exact HB.out | apply qj | apply qz | apply qk | refine qx ?_ (vq.ge HI0.out)) | exact HB.out)) HL.out hb);have n3_ := qq.mk (zk.trans (by repeat (first | (with_reducible first | exact HK.out | apply zk.set_ | apply jj | apply jv | apply jk) | exact HK.out)) (zk.of_grown hg g) (Kd.R_base2 HO_3.out));have n4_ := qq.mk (ho);clear HI0;clear HO121;clear HB;clear HK;clear HO_3;have HI0 := n0_;have HO121 := n1_;have HB := n2_;have HK := n3_;have HO127 := n4_;clear n0_ n1_ n2_ n3_ n4_;clear ho hb hg hat) | ((with_reducible refine gate_builtin (b := .append) (xs := #[.tmp 24,.tmp 26]) rfl ?_);at_builtin;refine Kd.R_append k122 w.heap.size rfl (.tmp 24) (.tmp 26) 62 122 (.agg #[(.string ⟨#[]⟩),(.string ⟨#[]⟩)]) 32 rfl Try.underlying62 info122 rfl (by decide) (by omega) v126 y125 (⟨(⟨#[111]⟩ : ByteArray),(⟨#[111,114,103]⟩ : ByteArray)⟩ : S122) [.string (⟨#[111]⟩ : ByteArray),.string (⟨#[111,114,103]⟩ : ByteArray)] (fun _ => True) (fun _ => False) rfl rfl ?aP (fun _ hk => hk.elim) ?aF ?aO (Below.refl _ _) ?aS ?aL ?_;(case aP => exact k122_mkM _ _ _ (⟨(⟨#[111]⟩ : ByteArray),(⟨#[111,114,103]⟩ : ByteArray)⟩ : S122));(case aF => exact (fun _ _ => trivial));(case aO => exact (by (with_reducible repeat (first | apply Kd.jq | apply Kd.zx | apply Kd.jz));exact HO127.out));(case aS => exact (keep_size (w := w) (g := g) (row := none) (by repeat (first | (with_reducible first | exact HK.out | apply zk.set_ | apply jj | apply jv | apply jk) | exact HK.out))));(case aL => have := LMc20.out;omega);intro v129 w27 ho hb hg hat;rw [← Ny128.out] at ho;have n0_ := qq.mk (vq.grown (by repeat (first | (with_reducible first | exact HI0.out | apply vq.alloc | apply vq.drewN | apply vq.drew | apply vq.set_1 | apply vq.set_2) | exact HI0.out)) hg (vq.own_ne HI0.out HO127.out (by decide)));have n1_ := qq.mk (Kd.R_over' (by (with_reducible repeat (first | apply Kd.jq | apply Kd.zx | apply Kd.jz));exact HO121.out) (Kd.R_typed (by (with_reducible repeat (first | apply Kd.jq | apply Kd.zx | apply Kd.jz));exact HO127.out)) (by decide) hg);have n2_ := qq.mk (below_weaken (by repeat (first | (with_reducible first | exact HB.out | apply qj | apply qz | apply qk | refine qx ?_ (vq.ge HI0.out)) | exact HB.out)) HL.out hb);have n3_ := qq.mk (zk.trans (by repeat (first | (with_reducible first | exact HK.out | apply zk.set_ | apply jj | apply jv | apply jk) | exact HK.out)) (zk.of_grown hg g) (Kd.R_base2 HO127.out));have n4_ := qq.mk (ho);clear HI0;clear HO121;clear HB;clear HK;clear HO127;have HI0 := n0_;have HO121 := n1_;have HB := n2_;have HK := n3_;have HO130 := n4_;clear n0_ n1_ n2_ n3_ n4_;clear ho hb hg hat))
      go_ret
      exact ⟨_,by first | rfl | (simp [*,jx,jw] <;> rfl),by (with_reducible repeat (first | apply Kd.jq | apply Kd.zx | apply Kd.jz));exact HO130.out,by repeat (first | (with_reducible first | exact HI0.out | apply vq.alloc | apply vq.drewN | apply vq.drew | apply vq.set_1 | apply vq.set_2) | exact HI0.out),by repeat (first | (with_reducible first | exact HB.out | apply qj | apply qz | apply qk | refine qx ?_ (vq.ge HI0.out)) | exact HB.out),by repeat (first | (with_reducible first | exact HK.out | apply zk.set_ | apply jj | apply jv | apply jk) | exact HK.out)⟩
     ·rw [if_neg c20] at H
      exact absurd H (by simp)
    ·rw [if_neg c19] at H
     exact absurd H (by simp)
mutual
def qzw.l0 : Nat → List (S122) → List Int → Int → Int → List Int → Int → Int → Option ((List (S122)) × Int × Int)
 | 0,_,_,_,_,_,_,_ => none
 | k + 1,x1,x5,x25,x26,x1000,x1001,x1002 => if x26 < x25 then (if 0 ≤ x26 then (if x26 < (x5.length : Int) then (qzw.l0 k x1 (x5.set (x26 : Int).toNat 119) x25 (wrap64 (x26 + 1)) x1000 x1001 x1002) else (none)) else (none)) else (if 0 < (x1.length : Int) then (some ((x1.set (0 : Int).toNat (⟨(vz x1 0).f0,strOfNums x5⟩ : S122)),x1001,x1002)) else (none))
def qzw.l1 : Nat → List (S122) → Int → List Int → Int → Int → Option ((List (S122)) × Int × Int)
 | 0,_,_,_,_,_ => none
 | k + 1,x1,x7,x1000,x1001,x1002 => if (x1.length : Int) < x7 then (if x1.length < 4398046511104 then (qzw.l1 k (x1 ++ [(⟨(⟨#[120]⟩ : ByteArray),(⟨#[121]⟩ : ByteArray)⟩ : S122)]) x7 x1000 x1001 x1002) else (none)) else (some (x1,x1001,x1002))
end
def qzw.f (k : Nat) (s0_0 : List Int) (s0_1 : Int) (s0_2 : Int) (l1 : List (S122)) : Option ((List (S122)) × Int × Int) := (qjz.f s0_0 s0_1 s0_2 14).bind fun bt101 => (if bt101.1 = 0 then ((qzx.f s0_0 bt101.2.1 bt101.2.2 (([(⟨#[]⟩ : ByteArray),(⟨#[49]⟩ : ByteArray),(⟨#[97,45,98]⟩ : ByteArray)] : List ByteArray))).bind fun bt107 => (if 0 < (l1.length : Int) then (some ((l1.set (0 : Int).toNat (⟨bt107.1,(vz l1 0).f1⟩ : S122)),bt107.2.1,bt107.2.2)) else (none))) else (if bt101.1 = 1 then ((qjz.f s0_0 bt101.2.1 bt101.2.2 3).bind fun bt111 => (if 0 ≤ (wrap64 (59 + bt111.1)) then (if (wrap64 (59 + bt111.1) : Int).toNat ≤ 281474976710656 then ((some (List.replicate (wrap64 (59 + bt111.1) : Int).toNat 0 : List Int)).bind fun y114 => (qzw.l0 k l1 y114 (y114.length : Int) 0 s0_0 bt111.2.1 bt111.2.2)) else (none)) else (none))) else (if bt101.1 = 2 then ((qzx.f s0_0 bt101.2.1 bt101.2.2 (([(⟨#[]⟩ : ByteArray),(⟨#[9]⟩ : ByteArray)] : List ByteArray))).bind fun bt122 => (if 0 < (l1.length : Int) then (some ((l1.set (0 : Int).toNat (⟨(vz l1 0).f0,bt122.1⟩ : S122)),bt122.2.1,bt122.2.2)) else (none))) else (if bt101.1 = 3 then ((qjz.f s0_0 bt101.2.1 bt101.2.2 3).bind fun bt126 => (qzw.l1 k l1 (wrap64 (7 + bt126.1)) s0_0 bt126.2.1 bt126.2.2)) else (some (l1,bt101.2.1,bt101.2.2))))))
set_option maxHeartbeats 8000000 in
set_option maxRecDepth 100000 in
theorem qzw.calls (k : Nat) (g : Nat) (s0_0 : List Int) (s0_1 : Int) (s0_2 : Int) (P1_ : Nat → Prop) (u9000_ : Value) (l1 : List (S122)) (r1 : List (S122)) (r2 : Int) (r3 : Int) (w0 w : World) (hI : vq w0 w g s0_0 s0_1 s0_2) (hB : Below w0.heap.size w0 w) (ho1 : Kd.R k122 122 w w0.heap.size P1_ u9000_ l1) (h : qzw.f k s0_0 s0_1 s0_2 l1 = some (r1,r2,r3)) :
  Calls Try.prog 99 #[.pointer (some ⟨g,0,none⟩),u9000_] w fun e w' => ∃ v0_ : Value,e = .returned (v0_) ∧ Kd.R k122 122 w' w0.heap.size (fun k_ => (P1_ k_ ∨ w.heap.size ≤ k_)) v0_ r1 ∧ vq w0 w' g s0_0 r2 r3 ∧ Below w0.heap.size w0 w' ∧ kv w w' (fun k_ => (P1_ k_) ∨ k_ = g) := by
 have hu122 := Try.underlying122
 have HO1 := qq.mk (show Kd.R k122 122 w w0.heap.size (fun k_ => (P1_ k_ ∨ w.heap.size ≤ k_)) u9000_ l1 from Kd.R_mono ho1 (fun k_ hk => (.inl hk)))
 have HI0 := qq.mk hI
 have HL := qq.mk hB.size
 clear hI
 have HK := qq.mk (kv.refl w (fun k_ => (P1_ k_) ∨ k_ = g))
 have HW0 := qq.mk hB.size
 have HB := qq.mk hB
 clear hB
 have H : ((qjz.f s0_0 s0_1 s0_2 14).bind fun bt101 => (if bt101.1 = 0 then ((qzx.f s0_0 bt101.2.1 bt101.2.2 (([(⟨#[]⟩ : ByteArray),(⟨#[49]⟩ : ByteArray),(⟨#[97,45,98]⟩ : ByteArray)] : List ByteArray))).bind fun bt107 => (if 0 < (l1.length : Int) then (some ((l1.set (0 : Int).toNat (⟨bt107.1,(vz l1 0).f1⟩ : S122)),bt107.2.1,bt107.2.2)) else (none))) else (if bt101.1 = 1 then ((qjz.f s0_0 bt101.2.1 bt101.2.2 3).bind fun bt111 => (if 0 ≤ (wrap64 (59 + bt111.1)) then (if (wrap64 (59 + bt111.1) : Int).toNat ≤ 281474976710656 then ((some (List.replicate (wrap64 (59 + bt111.1) : Int).toNat 0 : List Int)).bind fun y114 => (qzw.l0 k l1 y114 (y114.length : Int) 0 s0_0 bt111.2.1 bt111.2.2)) else (none)) else (none))) else (if bt101.1 = 2 then ((qzx.f s0_0 bt101.2.1 bt101.2.2 (([(⟨#[]⟩ : ByteArray),(⟨#[9]⟩ : ByteArray)] : List ByteArray))).bind fun bt122 => (if 0 < (l1.length : Int) then (some ((l1.set (0 : Int).toNat (⟨(vz l1 0).f0,bt122.1⟩ : S122)),bt122.2.1,bt122.2.2)) else (none))) else (if bt101.1 = 3 then ((qjz.f s0_0 bt101.2.1 bt101.2.2 3).bind fun bt126 => (qzw.l1 k l1 (wrap64 (7 + bt126.1)) s0_0 bt126.2.1 bt126.2.2)) else (some (l1,bt101.2.1,bt101.2.2))))))) = some (r1,r2,r3) := h
 clear h
 replace H := Option.bind_eq_some_iff.mp H
 obtain ⟨⟨t101,t102,t103⟩,A30,H⟩ := H
 replace H : (if t101 = 0 then ((qzx.f s0_0 t102 t103 (([(⟨#[]⟩ : ByteArray),(⟨#[49]⟩ : ByteArray),(⟨#[97,45,98]⟩ : ByteArray)] : List ByteArray))).bind fun bt107 => (if 0 < (l1.length : Int) then (some ((l1.set (0 : Int).toNat (⟨bt107.1,(vz l1 0).f1⟩ : S122)),bt107.2.1,bt107.2.2)) else (none))) else (if t101 = 1 then ((qjz.f s0_0 t102 t103 3).bind fun bt111 => (if 0 ≤ (wrap64 (59 + bt111.1)) then (if (wrap64 (59 + bt111.1) : Int).toNat ≤ 281474976710656 then ((some (List.replicate (wrap64 (59 + bt111.1) : Int).toNat 0 : List Int)).bind fun y114 => (qzw.l0 k l1 y114 (y114.length : Int) 0 s0_0 bt111.2.1 bt111.2.2)) else (none)) else (none))) else (if t101 = 2 then ((qzx.f s0_0 t102 t103 (([(⟨#[]⟩ : ByteArray),(⟨#[9]⟩ : ByteArray)] : List ByteArray))).bind fun bt122 => (if 0 < (l1.length : Int) then (some ((l1.set (0 : Int).toNat (⟨(vz l1 0).f0,bt122.1⟩ : S122)),bt122.2.1,bt122.2.2)) else (none))) else (if t101 = 3 then ((qjz.f s0_0 t102 t103 3).bind fun bt126 => (qzw.l1 k l1 (wrap64 (7 + bt126.1)) s0_0 bt126.2.1 bt126.2.2)) else (some (l1,t102,t103)))))) = some (r1,r2,r3) := H
 have A3 := qq.mk A30
 clear A30
 by_cases c4 : t101 = 0
 ·rw [if_pos c4] at H
  have c4b0 : (t101 == 0) = true := beq_iff_eq.mpr c4
  have c4b1 : (t101 != 0) = false := bne_eq_false_iff_eq.mpr c4
  clear c4
  obtain ⟨y104,hy104⟩ : ∃ y_ : List ByteArray,y_ = (([(⟨#[]⟩ : ByteArray),(⟨#[49]⟩ : ByteArray),(⟨#[97,45,98]⟩ : ByteArray)] : List ByteArray)) := ⟨_,rfl⟩
  replace H : ((qzx.f s0_0 t102 t103 y104).bind fun bt107 => (if 0 < (l1.length : Int) then (some ((l1.set (0 : Int).toNat (⟨bt107.1,(vz l1 0).f1⟩ : S122)),bt107.2.1,bt107.2.2)) else (none))) = some (r1,r2,r3) := by first | (rw [hy104];with_reducible exact H) | (have H2_ := (Option.bind_some _ _).symm.trans H;rw [hy104];with_reducible exact H2_) | (have H2_ := (Option.bind_some _ _).symm.trans H;with_reducible exact H2_) | with_reducible exact H | (rw [hy104];exact H) | exact H
  have Ny104 := qq.mk hy104
  clear hy104
  replace H := Option.bind_eq_some_iff.mp H
  obtain ⟨⟨t107,t108,t109⟩,A50,H⟩ := H
  replace H : (if 0 < (l1.length : Int) then (some ((l1.set (0 : Int).toNat (⟨t107,(vz l1 0).f1⟩ : S122)),t108,t109)) else (none)) = some (r1,r2,r3) := H
  have A5 := qq.mk A50
  clear A50
  by_cases c6 : 0 < (l1.length : Int)
  ·rw [if_pos c6] at H
   have c6b0 : decide (0 < (l1.length : Int)) = true := decide_eq_true c6
   have c6b1 : decide (0 < l1.length) = true := decide_eq_true (by omega)
   clear c6
   obtain ⟨y110,hy110⟩ : ∃ y_ : List (S122),y_ = (l1.set (0 : Int).toNat (⟨t107,(vz l1 0).f1⟩ : S122)) := ⟨_,rfl⟩
   replace H : (some (y110,t108,t109)) = some (r1,r2,r3) := by first | (rw [hy110];with_reducible exact H) | (have H2_ := (Option.bind_some _ _).symm.trans H;rw [hy110];with_reducible exact H2_) | (have H2_ := (Option.bind_some _ _).symm.trans H;with_reducible exact H2_) | with_reducible exact H | (rw [hy110];exact H) | exact H
   have Ny110 := qq.mk hy110
   clear hy110
   simp only [Option.some.injEq,Prod.mk.injEq] at H
   obtain ⟨rfl,rfl,rfl⟩ := H
   go_enter Try.func99,Try.ntmps99
   go_wp2_with (first | ((with_reducible refine kz (f := 54) rfl ?_);refine goesL_ (some 9) rfl rfl Try.func54 (by kernel_rfl) rfl #[.pointer (some ⟨g,0,none⟩),.int .i64 14] rfl (by (try simp only [List.map_toArray,List.map_cons,List.map_nil]);first | done | rfl | (simp only [List.length_drop,List.length_take];rfl)) ?_;(with_reducible refine (qjz.calls g s0_0 s0_1 s0_2 14 t101 t102 t103 w0 _ ?side1 ?side2 A3.out).mono ?_);(case side1 => repeat (first | (with_reducible first | exact HI0.out | apply vq.alloc | apply vq.drewN | apply vq.drew | apply vq.set_1 | apply vq.set_2) | exact HI0.out));(case side2 => repeat (first | (with_reducible first | exact HB.out | apply qj | apply qz | apply qk | refine qx ?_ (vq.ge HI0.out)) | exact HB.out));rintro e w8 ⟨rfl,hi,hb,hk⟩;refine ⟨_,rfl,?_⟩;have n0_ := qq.mk (Kd.R_mono (Kd.R_keep (vq.apart (show vq w0 _ g s0_0 s0_1 s0_2 from by repeat (first | (with_reducible first | exact HI0.out | apply vq.alloc | apply vq.drewN | apply vq.drew | apply vq.set_1 | apply vq.set_2) | exact HI0.out)) (by (with_reducible repeat (first | apply Kd.jq | apply Kd.zx | apply Kd.jz));exact HO1.out) (by decide)) hk (fun _ h => h.2)) (fun _ h => h.1));have n1_ := qq.mk (kv.of_keep (S := (fun k_ => (P1_ k_) ∨ k_ = g)) (by repeat (first | (with_reducible first | exact HK.out | apply kv.alloc | apply kv.drewN | apply kv.drew | refine kv.setCell ?_ (.inl (.inr rfl)) _) | exact HK.out)) hk (.inl (.inr rfl)));have n2_ := qq.mk (hb);have n3_ := qq.mk (hi);clear HO1;clear HK;clear HB;clear HI0;have HO1 := n0_;have HK := n1_;have HB := n2_;have HI0 := n3_;clear n0_ n1_ n2_ n3_;(try clear hb);(try clear hb2);(try clear hk);(try clear hi)) | ((with_reducible refine gate_dst (N := 14) rfl ?_);refine Kd.R_lit Kd.string _ 9 ?hg (N := 14) ?hd (xs := ([(⟨#[]⟩ : ByteArray),(⟨#[49]⟩ : ByteArray),(⟨#[97,45,98]⟩ : ByteArray)] : List ByteArray)) (inner := [.string (⟨#[]⟩ : ByteArray),.string (⟨#[49]⟩ : ByteArray),.string (⟨#[97,45,98]⟩ : ByteArray)]) (ok := fun _ => True) (okp := fun _ => True) ?hr ?hp (fun _ hk => hk) trivial (Below.refl _ _) (Nat.le_refl _) (by simp) ?_;(case hd => rfl);(case hg => rfl);(case hr => first | (go_simp;done) | (go_simp;rfl));(case hp => exact (Reps.one (show Kd.M Kd.string _ _ _ (⟨#[]⟩ : ByteArray) [.string (⟨#[]⟩ : ByteArray)] from rfl) (Reps.one (show Kd.M Kd.string _ _ _ (⟨#[49]⟩ : ByteArray) [.string (⟨#[49]⟩ : ByteArray)] from rfl) (Reps.one (show Kd.M Kd.string _ _ _ (⟨#[97,45,98]⟩ : ByteArray) [.string (⟨#[97,45,98]⟩ : ByteArray)] from rfl) (Reps.none _ _)))));intro v105 w9 ho10 hb hg_ hnew_;clear hg_ hnew_;(first | rw [← Ny104.out] at ho10 | (simp only [Int.reduceToNat] at ho10;rw [← Ny104.out] at ho10));have n0_ := qq.mk (Kd.R_below (by (with_reducible repeat (first | apply Kd.jq | apply Kd.zx | apply Kd.jz));exact HO1.out) hb);have n1_ := qq.mk (Kd.R_lower (Kd.R_newM (M := fun k_ => (P1_ k_ ∨ w.heap.size ≤ k_)) ho10 (by first | exact HK.out.1 | exact (show kv w _ (fun k_ => (P1_ k_) ∨ k_ = g) from by repeat (first | (with_reducible first | exact HK.out | apply kv.alloc | apply kv.drewN | apply kv.drew | refine kv.setCell ?_ (.inl (.inr rfl)) _) | exact HK.out)).1) (fun k_ h_ => .inr h_)) (zw (by repeat (first | (with_reducible first | exact HB.out | apply qj | apply qz | apply qk | refine qx ?_ (vq.ge HI0.out)) | exact HB.out))));have n2_ := qq.mk (vq.below (by repeat (first | (with_reducible first | exact HI0.out | apply vq.alloc | apply vq.drewN | apply vq.drew | apply vq.set_1 | apply vq.set_2) | exact HI0.out)) hb);have n3_ := qq.mk (kv.below (S := (fun k_ => (P1_ k_) ∨ k_ = g)) (by repeat (first | (with_reducible first | exact HK.out | apply kv.alloc | apply kv.drewN | apply kv.drew | refine kv.setCell ?_ (.inl (.inr rfl)) _) | exact HK.out)) hb);have n4_ := qq.mk (zv (by repeat (first | (with_reducible first | exact HB.out | apply qj | apply qz | apply qk | refine qx ?_ (vq.ge HI0.out)) | exact HB.out)) hb);clear HO1;clear HI0;clear HK;clear HB;have HO1 := n0_;have HO106 := n1_;have HI0 := n2_;have HK := n3_;have HB := n4_;clear n0_ n1_ n2_ n3_ n4_;clear hb ho10;obtain ⟨Ao11,co11,eo11⟩ := Kd.R_slice HO106.out;subst eo11) | ((with_reducible refine kz (f := 55) rfl ?_);refine goesL_ (some 15) rfl rfl Try.func55 (by kernel_rfl) rfl #[.pointer (some ⟨g,0,none⟩),.slice Ao11 y104.length co11] rfl (by (try simp only [List.map_toArray,List.map_cons,List.map_nil]);first | done | rfl | (simp only [List.length_drop,List.length_take];rfl)) ?_;(with_reducible refine (qzx.calls g s0_0 t102 t103 _ _ y104 t107 t108 t109 w0 _ ?side1 ?side2 ?side3 ?side4 ?side5 A5.out).mono ?_);(case side1 => repeat (first | (with_reducible first | exact HI0.out | apply vq.alloc | apply vq.drewN | apply vq.drew | apply vq.set_1 | apply vq.set_2) | exact HI0.out));(case side2 => repeat (first | (with_reducible first | exact HB.out | apply qj | apply qz | apply qk | refine qx ?_ (vq.ge HI0.out)) | exact HB.out));(case side3 => repeat (first | exact (Kd.R_reads' HO106.out).2.2 | (with_reducible refine Kd.C_alloc ?_ _) | (with_reducible refine Kd.C_drewN ?_ _) | (with_reducible refine Kd.C_drew ?_)));(case side4 => exact (Kd.R_reads' HO106.out).2.1);(case side5 => exact far_slice (vq.own_ne HI0.out HO106.out (by decide)));rintro e w12 ⟨rfl,hi,hb,hk⟩;refine ⟨_,rfl,?_⟩;have n0_ := qq.mk (Kd.R_mono (Kd.R_keep (vq.apart (show vq w0 _ g s0_0 t102 t103 from by repeat (first | (with_reducible first | exact HI0.out | apply vq.alloc | apply vq.drewN | apply vq.drew | apply vq.set_1 | apply vq.set_2) | exact HI0.out)) (by (with_reducible repeat (first | apply Kd.jq | apply Kd.zx | apply Kd.jz));exact HO1.out) (by decide)) hk (fun _ h => h.2)) (fun _ h => h.1));have n1_ := qq.mk (Kd.R_mono (Kd.R_keep (vq.apart (show vq w0 _ g s0_0 t102 t103 from by repeat (first | (with_reducible first | exact HI0.out | apply vq.alloc | apply vq.drewN | apply vq.drew | apply vq.set_1 | apply vq.set_2) | exact HI0.out)) (by (with_reducible repeat (first | apply Kd.jq | apply Kd.zx | apply Kd.jz));exact HO106.out) (by decide)) hk (fun _ h => h.2)) (fun _ h => h.1));have n2_ := qq.mk (kv.of_keep (S := (fun k_ => (P1_ k_) ∨ k_ = g)) (by repeat (first | (with_reducible first | exact HK.out | apply kv.alloc | apply kv.drewN | apply kv.drew | refine kv.setCell ?_ (.inl (.inr rfl)) _) | exact HK.out)) hk (.inl (.inr rfl)));have n3_ := qq.mk (hb);have n4_ := qq.mk (hi);clear HO1;clear HO106;clear HK;clear HB;clear HI0;have HO1 := n0_;have HO106 := n1_;have HK := n2_;have HB := n3_;have HI0 := n4_;clear n0_ n1_ n2_ n3_ n4_;(try clear hb);(try clear hb2);(try clear hk);(try clear hi);have p7 : 0 ≤ (0 : Int) := (by omega);have q7 : (0 : Int) < ((l1.length : Int) : Int) := of_decide_eq_true (by assumption);have qi7 : (0 < l1.length) = True := eq_true (by omega);obtain ⟨go7,co7,eo7,gb7,gl7,cl7,HG7⟩ := Kd.R_form HO1.out (by omega);(first | cases eo7 | (injection eo7 with ea_ en_ ec_;(first | subst ea_ | (injection ea_ with ea_;subst ea_));subst ec_;clear en_));have GB7 := qq.mk gb7;have GG7 := qq.mk HG7;clear gb7 gl7 HG7;have HMgo7 := qq.mk (show (P1_ go7 ∨ w.heap.size ≤ go7) from (HO1.out.1 _ rfl));obtain ⟨ce7,hcl7,hM7,hcc7,hfr7⟩ := Kd.R_elem HO1.out z122 (0 : Int) p7 q7;obtain rfl := k122_openM hM7;have hx7_0 : w12.cell? ⟨go7,(0 : Int).toNat * 2,none⟩ = some (.string ((vz l1 0).f0)) := hcc7 0 _ rfl;have hx7_1 : w12.cell? ⟨go7,(0 : Int).toNat * 2 + 1,none⟩ = some (.string ((vz l1 0).f1)) := hcc7 1 _ rfl;have hf7_0 : w12.frozen? ⟨go7,(0 : Int).toNat * 2,none⟩ = false := hfr7 0;have hf7_1 : w12.frozen? ⟨go7,(0 : Int).toNat * 2 + 1,none⟩ = false := hfr7 1;clear hcl7 hcc7 hfr7;(try clear hM7);(try rw [show ((0 : Int)).toNat = 0 from rfl] at hx7_0);(try simp only [Nat.reduceMul,Nat.zero_mul,Nat.zero_add,Nat.reduceAdd] at hx7_0);(try rw [show ((0 : Int)).toNat = 0 from rfl] at hf7_0);(try simp only [Nat.reduceMul,Nat.zero_mul,Nat.zero_add,Nat.reduceAdd] at hf7_0);(try rw [show ((0 : Int)).toNat = 0 from rfl] at hx7_1);(try simp only [Nat.reduceMul,Nat.zero_mul,Nat.zero_add,Nat.reduceAdd] at hx7_1);(try rw [show ((0 : Int)).toNat = 0 from rfl] at hf7_1);(try simp only [Nat.reduceMul,Nat.zero_mul,Nat.zero_add,Nat.reduceAdd] at hf7_1);replace p7 := eq_true p7;replace q7 := eq_true q7;have HX13 := qq.mk (show Kd.R k122 122 w12 w0.heap.size (fun k_ => (P1_ k_ ∨ w.heap.size ≤ k_)) (.slice (some ⟨go7,0,none⟩) l1.length co7) l1 from (by (with_reducible repeat (first | apply Kd.jq | apply Kd.zx | apply Kd.jz));exact HO1.out));obtain ⟨ce13,hcl13,hM13,hcc13,hfr13⟩ := Kd.R_elem HX13.out z122 (0 : Int) (by omega) (by have h_ : (0 : Int) < ((l1.length : Int) : Int) := of_decide_eq_true (by assumption);first | exact h_ | (have e_ := (Kd.R_reads' HO1.out).1;omega) | simpa using h_);obtain rfl := k122_openM hM13;have HP13 := Kd.R_seg HX13.out (0 : Int) (by omega) (by have h_ : (0 : Int) < ((l1.length : Int) : Int) := of_decide_eq_true (by assumption);first | exact h_ | (have e_ := (Kd.R_reads' HO1.out).1;omega) | simpa using h_) (seg := [.string t107]) (j := 0) hcl13 hcc13 (show 1 ≤ 2 from by decide) (x' := (⟨t107,(vz l1 0).f1⟩ : S122)) (k122_mkM _ _ _ (⟨t107,(vz l1 0).f1⟩ : S122) ) (fun _ hk => hk);have hx13_0 := hcc13 0 _ rfl;(try simp only [show (k122).sz = 2 from rfl,Nat.mul_one,Nat.add_zero] at hx13_0);(try rw [show ((0 : Int)).toNat = 0 from rfl] at hx13_0);(try simp only [Nat.reduceMul,Nat.zero_mul,Nat.zero_add,Nat.reduceAdd] at hx13_0);have hf13_0 := hfr13 0;(try simp only [show (k122).sz = 2 from rfl,Nat.mul_one,Nat.add_zero] at hf13_0);(try rw [show ((0 : Int)).toNat = 0 from rfl] at hf13_0);(try simp only [Nat.reduceMul,Nat.zero_mul,Nat.zero_add,Nat.reduceAdd] at hf13_0);clear hcl13 hcc13 hfr13;(try clear hM13)) | ((with_reducible refine kj (t := 9) (p := 17) rfl ?_);refine kk (t := 9) (p := 17) (v := ?vo_w14) (w1 := (w12.setCell ⟨go7,0,none⟩ (.string t107))) ?hg ?ho ?hn ?hr ?_;(case ho => rfl);(case hg => rfl);(case hn => rfl);(case hr => first | (go_simp;done) | (go_simp;rfl));intro w14 hw;have hg : w12.grownBy w14 (some go7) := (by rw [hw];exact HP13.2);have hp_ : Kd.R k122 122 w14 w0.heap.size (fun k_ => (P1_ k_ ∨ w.heap.size ≤ k_)) (.slice (some ⟨go7,0,none⟩) l1.length co7) y110 := (by rw [hw,Ny110.out];exact HP13.1);clear HP13;have n0_ := qq.mk (vq.grown (by repeat (first | (with_reducible first | exact HI0.out | apply vq.alloc | apply vq.drewN | apply vq.drew | apply vq.set_1 | apply vq.set_2) | exact HI0.out)) hg (vq.own_ne HI0.out HO1.out (by decide)));have n1_ := qq.mk (hp_);have n2_ := qq.mk (Kd.R_over' (v := (.slice (some ⟨go7,0,none⟩) l1.length co7)) (by (with_reducible repeat (first | apply Kd.jq | apply Kd.zx | apply Kd.jz));exact HO106.out) (Kd.R_typed HO1.out) (by decide) hg);have n3_ := qq.mk ((by rw [hw];exact qx (HB.out) GB7.out : Below w0.heap.size w0 w14));have n4_ := qq.mk (kv.of_grown (S := (fun k_ => (P1_ k_) ∨ k_ = g)) hg (by repeat (first | (with_reducible first | exact HK.out | apply kv.alloc | apply kv.drewN | apply kv.drew | refine kv.setCell ?_ (.inl (.inr rfl)) _) | exact HK.out)) (fun k_ e_ => Or.imp_left Or.inl ((HO1.out.1 k_ e_))));clear HI0;clear HO1;clear HO106;clear HB;clear HK;have HI0 := n0_;have HO1 := n1_;have HO106 := n2_;have HB := n3_;have HK := n4_;clear n0_ n1_ n2_ n3_ n4_;clear hg hw hp_))
   go_ret
   exact ⟨_,by first | rfl | (simp [*,jx,jw] <;> rfl),by (with_reducible repeat (first | apply Kd.jq | apply Kd.zx | apply Kd.jz));exact HO1.out,by repeat (first | (with_reducible first | exact HI0.out | apply vq.alloc | apply vq.drewN | apply vq.drew | apply vq.set_1 | apply vq.set_2) | exact HI0.out),by repeat (first | (with_reducible first | exact HB.out | apply qj | apply qz | apply qk | refine qx ?_ (vq.ge HI0.out)) | exact HB.out),by repeat (first | (with_reducible first | exact HK.out | apply kv.alloc | apply kv.drewN | apply kv.drew | refine kv.setCell ?_ (.inl (.inr rfl)) _) | exact HK.out)⟩
  ·rw [if_neg c6] at H
   exact absurd H (by simp)
 ·rw [if_neg c4] at H
  have c4b0 : (t101 == 0) = false := beq_eq_false_iff_ne.mpr c4
  have c4b1 : (t101 != 0) = true := bne_iff_ne.mpr c4
  by_cases c15 : t101 = 1
  ·rw [if_pos c15] at H
   have c15b0 : (t101 == 1) = true := beq_iff_eq.mpr c15
   have c15b1 : (t101 != 1) = false := bne_eq_false_iff_eq.mpr c15
   clear c15
   replace H := Option.bind_eq_some_iff.mp H
   obtain ⟨⟨t111,t112,t113⟩,A160,H⟩ := H
   replace H : (if 0 ≤ (wrap64 (59 + t111)) then (if (wrap64 (59 + t111) : Int).toNat ≤ 281474976710656 then ((some (List.replicate (wrap64 (59 + t111) : Int).toNat 0 : List Int)).bind fun y114 => (qzw.l0 k l1 y114 (y114.length : Int) 0 s0_0 t112 t113)) else (none)) else (none)) = some (r1,r2,r3) := H
   have A16 := qq.mk A160
   clear A160
   obtain ⟨ji17,hji17⟩ : ∃ j_ : Int,(wrap64 (59 + t111)) = j_ := ⟨_,rfl⟩
   replace H : (if 0 ≤ (ji17) then (if (ji17 : Int).toNat ≤ 281474976710656 then ((some (List.replicate (ji17 : Int).toNat 0 : List Int)).bind fun y114 => (qzw.l0 k l1 y114 (y114.length : Int) 0 s0_0 t112 t113)) else (none)) else (none)) = some (r1,r2,r3) := by first | (rw [hji17] at H;exact H) | (simp only [hji17] at H ⊢;exact H)
   (try rw [hji17] at A3)
   (try rw [hji17] at A16)
   have hji17w : (IntKind.i64.wrap (59 + t111)) = ji17 := (i64_w _).trans hji17
   by_cases c18 : 0 ≤ (ji17)
   ·rw [if_pos c18] at H
    have c18b0 := eq_true c18
    have c18b1 : decide (0 ≤ (ji17)) = true := decide_eq_true c18
    clear c18
    by_cases c19 : (ji17 : Int).toNat ≤ 281474976710656
    ·rw [if_pos c19] at H
     have c19b0 := eq_true c19
     have c19b1 : decide ((ji17 : Int).toNat ≤ 281474976710656) = true := decide_eq_true c19
     clear c19
     obtain ⟨y114,hy114⟩ : ∃ y_ : List Int,y_ = (List.replicate (ji17 : Int).toNat 0) := ⟨_,rfl⟩
     replace H : (qzw.l0 k l1 y114 (y114.length : Int) 0 s0_0 t112 t113) = some (r1,r2,r3) := by first | (rw [hy114];with_reducible exact H) | (have H2_ := (Option.bind_some _ _).symm.trans H;rw [hy114];with_reducible exact H2_) | (have H2_ := (Option.bind_some _ _).symm.trans H;with_reducible exact H2_) | with_reducible exact H | (rw [hy114];exact H) | exact H
     have Ny114 := qq.mk hy114
     clear hy114
     have H' := qq.mk H
     clear H
     go_enter Try.func99,Try.ntmps99
     go_wp2_with (first | ((with_reducible refine kz (f := 54) rfl ?_);refine goesL_ (some 9) rfl rfl Try.func54 (by kernel_rfl) rfl #[.pointer (some ⟨g,0,none⟩),.int .i64 14] rfl (by (try simp only [List.map_toArray,List.map_cons,List.map_nil]);first | done | rfl | (simp only [List.length_drop,List.length_take];rfl)) ?_;(with_reducible refine (qjz.calls g s0_0 s0_1 s0_2 14 t101 t102 t103 w0 _ ?side1 ?side2 A3.out).mono ?_);(case side1 => repeat (first | (with_reducible first | exact HI0.out | apply vq.alloc | apply vq.drewN | apply vq.drew | apply vq.set_1 | apply vq.set_2) | exact HI0.out));(case side2 => repeat (first | (with_reducible first | exact HB.out | apply qj | apply qz | apply qk | refine qx ?_ (vq.ge HI0.out)) | exact HB.out));rintro e w20 ⟨rfl,hi,hb,hk⟩;refine ⟨_,rfl,?_⟩;have n0_ := qq.mk (Kd.R_mono (Kd.R_keep (vq.apart (show vq w0 _ g s0_0 s0_1 s0_2 from by repeat (first | (with_reducible first | exact HI0.out | apply vq.alloc | apply vq.drewN | apply vq.drew | apply vq.set_1 | apply vq.set_2) | exact HI0.out)) (by (with_reducible repeat (first | apply Kd.jq | apply Kd.zx | apply Kd.jz));exact HO1.out) (by decide)) hk (fun _ h => h.2)) (fun _ h => h.1));have n1_ := qq.mk (kv.of_keep (S := (fun k_ => (P1_ k_) ∨ k_ = g)) (by repeat (first | (with_reducible first | exact HK.out | apply kv.alloc | apply kv.drewN | apply kv.drew | refine kv.setCell ?_ (.inl (.inr rfl)) _) | exact HK.out)) hk (.inl (.inr rfl)));have n2_ := qq.mk (hb);have n3_ := qq.mk (hi);clear HO1;clear HK;clear HB;clear HI0;have HO1 := n0_;have HK := n1_;have HB := n2_;have HI0 := n3_;clear n0_ n1_ n2_ n3_;(try clear hb);(try clear hb2);(try clear hk);(try clear hi)) | ((with_reducible refine kz (f := 54) rfl ?_);refine goesL_ (some 21) rfl rfl Try.func54 (by kernel_rfl) rfl #[.pointer (some ⟨g,0,none⟩),.int .i64 3] rfl (by (try simp only [List.map_toArray,List.map_cons,List.map_nil]);first | done | rfl | (simp only [List.length_drop,List.length_take];rfl)) ?_;(with_reducible refine (qjz.calls g s0_0 t102 t103 3 t111 t112 t113 w0 _ ?side1 ?side2 A16.out).mono ?_);(case side1 => repeat (first | (with_reducible first | exact HI0.out | apply vq.alloc | apply vq.drewN | apply vq.drew | apply vq.set_1 | apply vq.set_2) | exact HI0.out));(case side2 => repeat (first | (with_reducible first | exact HB.out | apply qj | apply qz | apply qk | refine qx ?_ (vq.ge HI0.out)) | exact HB.out));rintro e w21 ⟨rfl,hi,hb,hk⟩;refine ⟨_,rfl,?_⟩;have n0_ := qq.mk (Kd.R_mono (Kd.R_keep (vq.apart (show vq w0 _ g s0_0 t102 t103 from by repeat (first | (with_reducible first | exact HI0.out | apply vq.alloc | apply vq.drewN | apply vq.drew | apply vq.set_1 | apply vq.set_2) | exact HI0.out)) (by (with_reducible repeat (first | apply Kd.jq | apply Kd.zx | apply Kd.jz));exact HO1.out) (by decide)) hk (fun _ h => h.2)) (fun _ h => h.1));have n1_ := qq.mk (kv.of_keep (S := (fun k_ => (P1_ k_) ∨ k_ = g)) (by repeat (first | (with_reducible first | exact HK.out | apply kv.alloc | apply kv.drewN | apply kv.drew | refine kv.setCell ?_ (.inl (.inr rfl)) _) | exact HK.out)) hk (.inl (.inr rfl)));have n2_ := qq.mk (hb);have n3_ := qq.mk (hi);clear HO1;clear HK;clear HB;clear HI0;have HO1 := n0_;have HK := n1_;have HB := n2_;have HI0 := n3_;clear n0_ n1_ n2_ n3_;(try clear hb);(try clear hb2);(try clear hk);(try clear hi)) | ((with_reducible refine gate_dst (N := 23) rfl ?_);refine Kd.R_make (Kd.int .u8) _ 5 rfl (N := 23) rfl 22 _ _ rfl ji17 rfl rfl Try.underlying22 (.int .u8 0) 1 info5 rfl (by decide) (by omega) 0 (ok := fun _ => True) (okp := fun _ => True) rfl (fun _ hk => hk) trivial (of_decide_eq_true (by assumption)) (Nat.le_trans (Nat.mul_le_mul_right _ (of_decide_eq_true (by assumption) : ji17.toNat ≤ 281474976710656)) (by omega)) (Below.refl _ _) (Nat.le_refl _) ?_;intro v115 w22 ho23 hb hg_ hnew_;clear hg_ hnew_;(first | rw [← Ny114.out] at ho23 | (simp only [Int.reduceToNat] at ho23;rw [← Ny114.out] at ho23));have n0_ := qq.mk (Kd.R_below (by (with_reducible repeat (first | apply Kd.jq | apply Kd.zx | apply Kd.jz));exact HO1.out) hb);have n1_ := qq.mk (Kd.R_lower (Kd.R_newM (M := fun k_ => (P1_ k_ ∨ w.heap.size ≤ k_)) ho23 (by first | exact HK.out.1 | exact (show kv w _ (fun k_ => (P1_ k_) ∨ k_ = g) from by repeat (first | (with_reducible first | exact HK.out | apply kv.alloc | apply kv.drewN | apply kv.drew | refine kv.setCell ?_ (.inl (.inr rfl)) _) | exact HK.out)).1) (fun k_ h_ => .inr h_)) (zw (by repeat (first | (with_reducible first | exact HB.out | apply qj | apply qz | apply qk | refine qx ?_ (vq.ge HI0.out)) | exact HB.out))));have n2_ := qq.mk (vq.below (by repeat (first | (with_reducible first | exact HI0.out | apply vq.alloc | apply vq.drewN | apply vq.drew | apply vq.set_1 | apply vq.set_2) | exact HI0.out)) hb);have n3_ := qq.mk (kv.below (S := (fun k_ => (P1_ k_) ∨ k_ = g)) (by repeat (first | (with_reducible first | exact HK.out | apply kv.alloc | apply kv.drewN | apply kv.drew | refine kv.setCell ?_ (.inl (.inr rfl)) _) | exact HK.out)) hb);have n4_ := qq.mk (zv (by repeat (first | (with_reducible first | exact HB.out | apply qj | apply qz | apply qk | refine qx ?_ (vq.ge HI0.out)) | exact HB.out)) hb);clear HO1;clear HI0;clear HK;clear HB;have HO1 := n0_;have HO116 := n1_;have HI0 := n2_;have HK := n3_;have HB := n4_;clear n0_ n1_ n2_ n3_ n4_;clear hb ho23;obtain ⟨Ao24,co24,eo24⟩ := Kd.R_slice HO116.out;subst eo24))
     go_loopg [26] k (fun kq v26 w' => ∃ (x5_1 : List Int) (x26_1 : Int),v26 = .int .i64 x26_1 ∧ qq (qzw.l0 kq l1 x5_1 (y114.length : Int) x26_1 s0_0 t112 t113 = some (r1,r2,r3)) ∧ qq (kq ≤ k) ∧ qq (Kd.R k122 122 w' w0.heap.size (fun k_ => (P1_ k_ ∨ w.heap.size ≤ k_)) u9000_ l1) ∧ qq (Kd.R (Kd.int .u8) 5 w' w0.heap.size (fun k_ => (P1_ k_ ∨ w.heap.size ≤ k_)) (.slice Ao24 y114.length co24) x5_1) ∧ qq (vq w0 w' g s0_0 t112 t113) ∧ qq (kv w w' (fun k_ => (P1_ k_) ∨ k_ = g)) ∧ qq (Below w0.heap.size w0 w'))
     case atStart => exact ⟨(y114),(0),(by first | rfl | (simp;done) | (simp [*];done)),H',⟨Nat.le_refl _⟩,⟨by (with_reducible repeat (first | apply Kd.jq | apply Kd.zx | apply Kd.jz));exact HO1.out⟩,⟨by (with_reducible repeat (first | apply Kd.jq | apply Kd.zx | apply Kd.jz));exact Kd.R_mono HO116.out (fun _ hk => hk.1)⟩,⟨by repeat (first | (with_reducible first | exact HI0.out | apply vq.alloc | apply vq.drewN | apply vq.drew | apply vq.set_1 | apply vq.set_2) | exact HI0.out)⟩,⟨by repeat (first | (with_reducible first | exact HK.out | apply kv.alloc | apply kv.drewN | apply kv.drew | refine kv.setCell ?_ (.inl (.inr rfl)) _) | exact HK.out)⟩,⟨by repeat (first | (with_reducible first | exact HB.out | apply qj | apply qz | apply qk | refine qx ?_ (vq.ge HI0.out)) | exact HB.out)⟩⟩
     case round =>
      clear H'
      try clear c1
      try clear hx1
      try clear p2
      try clear c4
      try clear c4b0
      try clear c4b1
      try clear c5
      try clear c6
      try clear c6b0
      try clear c6b1
      try clear p6
      try clear c7
      try clear p7
      try clear q7
      try clear hx7
      try clear qi7
      try clear hf7
      try clear c9
      try clear c13
      try clear hx13
      try clear hf13
      try clear c15
      try clear c15b0
      try clear c15b1
      try clear c18
      try clear c18b0
      try clear c18b1
      try clear c19
      try clear c19b0
      try clear c19b1
      try clear hx13_0
      try clear hx7_0
      try clear hx7_1
      try clear p7
      try clear q7
      obtain ⟨x5_1,x26_1,rfl,HA,HK1,HO_1,HO_5,HI0,HK,HB⟩ := hrel
      have hl5_1 := (Kd.R_reads' HO_5.out).1
      rw [hl5_1] at HO_5
      (try simp only [hl5_1])
      (try simp only [hl5_1] at HO_1)
      cases gk with
      | zero => exact absurd HA.out (by simp [qzw.l0])
      | succ k1 =>
       have H := HA.out
       clear HA
       simp only [qzw.l0] at H
       by_cases c25 : x26_1 < (y114.length : Int)
       ·rw [if_pos c25] at H
        have c25b0 : decide (x26_1 < (y114.length : Int)) = true := decide_eq_true c25
        clear c25
        by_cases c26 : 0 ≤ x26_1
        ·rw [if_pos c26] at H
         have c26b0 : decide (0 ≤ x26_1) = true := decide_eq_true c26
         clear c26
         by_cases c27 : x26_1 < (x5_1.length : Int)
         ·rw [if_pos c27] at H
          have c27b0 : decide (x26_1 < (x5_1.length : Int)) = true := decide_eq_true c27
          clear c27
          obtain ⟨y117,hy117⟩ : ∃ y_ : List Int,y_ = (x5_1.set (x26_1 : Int).toNat 119) := ⟨_,rfl⟩
          replace H : (qzw.l0 k1 l1 y117 (y114.length : Int) (wrap64 (x26_1 + 1)) s0_0 t112 t113) = some (r1,r2,r3) := by first | (rw [hy117];with_reducible exact H) | (have H2_ := (Option.bind_some _ _).symm.trans H;rw [hy117];with_reducible exact H2_) | (have H2_ := (Option.bind_some _ _).symm.trans H;with_reducible exact H2_) | with_reducible exact H | (rw [hy117];exact H) | exact H
          have Ny117 := qq.mk hy117
          clear hy117
          have H' := qq.mk H
          clear H
          have p28 : 0 ≤ (x26_1 : Int) := of_decide_eq_true (by assumption)
          have q28 : (x26_1 : Int) < ((x5_1.length : Int) : Int) := of_decide_eq_true (by assumption)
          obtain ⟨go28,co28,eo28,gb28,gl28,cl28,HG28⟩ := Kd.R_form HO_5.out (by omega)
          (first | cases eo28 | (injection eo28 with ea_ en_ ec_;(first | subst ea_ | (injection ea_ with ea_;subst ea_));subst ec_;clear en_))
          have GB28 := qq.mk gb28
          have GG28 := qq.mk HG28
          clear gb28 gl28 HG28
          have HMgo28 := qq.mk (show (P1_ go28 ∨ w.heap.size ≤ go28) from (HO_5.out.1 _ rfl))
          obtain ⟨hx28_0,hf28_0⟩ := Kd.R_celln 0 HO_5.out (x26_1 : Int) p28 q28
          replace p28 := eq_true p28
          replace q28 := eq_true q28
          have HP29 := Kd.R_putg HO_5.out (x26_1 : Int) 119
          go_wp2_with (first | ((with_reducible refine kj (t := 5) (p := 31) rfl ?_);refine kk (t := 5) (p := 31) (v := ?vo_w30) (w1 := (wr.setCell ⟨go28,(x26_1 : Int).toNat,none⟩ (.int .u8 119))) ?hg ?ho ?hn ?hr ?_;(case ho => rfl);(case hg => rfl);(case hn => rfl);(case hr => first | (go_simp;done) | (go_simp;rfl));intro w30 hw;have hg : wr.grownBy w30 (some go28) := (by rw [hw];exact HP29.2);have hp_ : Kd.R (Kd.int .u8) 5 w30 w0.heap.size (fun k_ => (P1_ k_ ∨ w.heap.size ≤ k_)) (.slice (some ⟨go28,0,none⟩) x5_1.length co24) y117 := (by rw [hw,Ny117.out];exact HP29.1);clear HP29;have n0_ := qq.mk (Kd.R_over' (v := (.slice (some ⟨go28,0,none⟩) x5_1.length co24)) (by (with_reducible repeat (first | apply Kd.jq | apply Kd.zx | apply Kd.jz));exact HO_1.out) (Kd.R_typed HO_5.out) (by decide) hg);have n1_ := qq.mk (hp_);have n2_ := qq.mk (vq.grown (by repeat (first | (with_reducible first | exact HI0.out | apply vq.alloc | apply vq.drewN | apply vq.drew | apply vq.set_1 | apply vq.set_2) | exact HI0.out)) hg (vq.own_ne HI0.out HO_5.out (by decide)));have n3_ := qq.mk ((by rw [hw];exact qx (HB.out) GB28.out : Below w0.heap.size w0 w30));have n4_ := qq.mk (kv.of_grown (S := (fun k_ => (P1_ k_) ∨ k_ = g)) hg (by repeat (first | (with_reducible first | exact HK.out | apply kv.alloc | apply kv.drewN | apply kv.drew | refine kv.setCell ?_ (.inl (.inr rfl)) _) | exact HK.out)) (fun k_ e_ => Or.imp_left Or.inl ((HO_5.out.1 k_ e_))));clear HO_1;clear HO_5;clear HI0;clear HB;clear HK;have HO_1 := n0_;have HO_5 := n1_;have HI0 := n2_;have HB := n3_;have HK := n4_;clear n0_ n1_ n2_ n3_ n4_;clear hg hw hp_))
          (try simp only [← hl5_1])
          go_roundg k1
          case measure => have := HK1.out;omega
          case rel => exact ⟨(y117),(wrap64 (x26_1 + 1)),(by first | rfl | (simp;done) | (simp [*];done)),H',⟨by have := HK1.out;omega⟩,⟨by (try simp only [hl5_1]);(with_reducible repeat (first | apply Kd.jq | apply Kd.zx | apply Kd.jz));exact HO_1.out⟩,⟨by (try simp only [hl5_1]);(with_reducible repeat (first | apply Kd.jq | apply Kd.zx | apply Kd.jz));exact HO_5.out⟩,⟨by repeat (first | (with_reducible first | exact HI0.out | apply vq.alloc | apply vq.drewN | apply vq.drew | apply vq.set_1 | apply vq.set_2) | exact HI0.out)⟩,⟨by repeat (first | (with_reducible first | exact HK.out | apply kv.alloc | apply kv.drewN | apply kv.drew | refine kv.setCell ?_ (.inl (.inr rfl)) _) | exact HK.out)⟩,⟨by repeat (first | (with_reducible first | exact HB.out | apply qj | apply qz | apply qk | refine qx ?_ (vq.ge HI0.out)) | exact HB.out)⟩⟩
         ·rw [if_neg c27] at H
          exact absurd H (by simp)
        ·rw [if_neg c26] at H
         exact absurd H (by simp)
       ·rw [if_neg c25] at H
        have c25b0 : decide (x26_1 < (y114.length : Int)) = false := decide_eq_false c25
        rw [hl5_1] at c25b0
        clear c25
        by_cases c31 : 0 < (l1.length : Int)
        ·rw [if_pos c31] at H
         have c31b0 : decide (0 < (l1.length : Int)) = true := decide_eq_true c31
         have c31b1 : decide (0 < l1.length) = true := decide_eq_true (by omega)
         clear c31
         obtain ⟨y118,hy118⟩ : ∃ y_ : List (S122),y_ = (l1.set (0 : Int).toNat (⟨(vz l1 0).f0,strOfNums x5_1⟩ : S122)) := ⟨_,rfl⟩
         replace H : (some (y118,t112,t113)) = some (r1,r2,r3) := by first | (rw [hy118];with_reducible exact H) | (have H2_ := (Option.bind_some _ _).symm.trans H;rw [hy118];with_reducible exact H2_) | (have H2_ := (Option.bind_some _ _).symm.trans H;with_reducible exact H2_) | with_reducible exact H | (rw [hy118];exact H) | exact H
         have Ny118 := qq.mk hy118
         clear hy118
         simp only [Option.some.injEq,Prod.mk.injEq] at H
         obtain ⟨rfl,rfl,rfl⟩ := H
         have hcv33 := own_string (P := Try.prog) Try.underlying22 Try.underlying5 Try.underlying9 (Kd.own_of_R HO_5.out)
         have p32 : 0 ≤ (0 : Int) := (by omega)
         have q32 : (0 : Int) < ((l1.length : Int) : Int) := of_decide_eq_true (by assumption)
         have qi32 : (0 < l1.length) = True := eq_true (by omega)
         obtain ⟨go32,co32,eo32,gb32,gl32,cl32,HG32⟩ := Kd.R_form HO_1.out (by omega)
         (first | cases eo32 | (injection eo32 with ea_ en_ ec_;(first | subst ea_ | (injection ea_ with ea_;subst ea_));subst ec_;clear en_))
         have GB32 := qq.mk gb32
         have GG32 := qq.mk HG32
         clear gb32 gl32 HG32
         have HMgo32 := qq.mk (show (P1_ go32 ∨ w.heap.size ≤ go32) from (HO_1.out.1 _ rfl))
         obtain ⟨ce32,hcl32,hM32,hcc32,hfr32⟩ := Kd.R_elem HO_1.out z122 (0 : Int) p32 q32
         obtain rfl := k122_openM hM32
         have hx32_0 : wr.cell? ⟨go32,(0 : Int).toNat * 2,none⟩ = some (.string ((vz l1 0).f0)) := hcc32 0 _ rfl
         have hx32_1 : wr.cell? ⟨go32,(0 : Int).toNat * 2 + 1,none⟩ = some (.string ((vz l1 0).f1)) := hcc32 1 _ rfl
         have hf32_0 : wr.frozen? ⟨go32,(0 : Int).toNat * 2,none⟩ = false := hfr32 0
         have hf32_1 : wr.frozen? ⟨go32,(0 : Int).toNat * 2 + 1,none⟩ = false := hfr32 1
         clear hcl32 hcc32 hfr32;(try clear hM32)
         (try rw [show ((0 : Int)).toNat = 0 from rfl] at hx32_0)
         (try simp only [Nat.reduceMul,Nat.zero_mul,Nat.zero_add,Nat.reduceAdd] at hx32_0)
         (try rw [show ((0 : Int)).toNat = 0 from rfl] at hf32_0)
         (try simp only [Nat.reduceMul,Nat.zero_mul,Nat.zero_add,Nat.reduceAdd] at hf32_0)
         (try rw [show ((0 : Int)).toNat = 0 from rfl] at hx32_1)
         (try simp only [Nat.reduceMul,Nat.zero_mul,Nat.zero_add,Nat.reduceAdd] at hx32_1)
         (try rw [show ((0 : Int)).toNat = 0 from rfl] at hf32_1)
         (try simp only [Nat.reduceMul,Nat.zero_mul,Nat.zero_add,Nat.reduceAdd] at hf32_1)
         replace p32 := eq_true p32
         replace q32 := eq_true q32
         have HX34 := qq.mk (show Kd.R k122 122 wr w0.heap.size (fun k_ => (P1_ k_ ∨ w.heap.size ≤ k_)) (.slice (some ⟨go32,0,none⟩) l1.length co32) l1 from (by (with_reducible repeat (first | apply Kd.jq | apply Kd.zx | apply Kd.jz));exact HO_1.out))
         obtain ⟨ce34,hcl34,hM34,hcc34,hfr34⟩ := Kd.R_elem HX34.out z122 (0 : Int) (by omega) (by have h_ : (0 : Int) < ((l1.length : Int) : Int) := of_decide_eq_true (by assumption);first | exact h_ | (have e_ := (Kd.R_reads' HO_1.out).1;omega) | simpa using h_)
         obtain rfl := k122_openM hM34
         have HP34 := Kd.R_seg HX34.out (0 : Int) (by omega) (by have h_ : (0 : Int) < ((l1.length : Int) : Int) := of_decide_eq_true (by assumption);first | exact h_ | (have e_ := (Kd.R_reads' HO_1.out).1;omega) | simpa using h_) (seg := [.string (strOfNums x5_1)]) (j := 1) hcl34 hcc34 (show 2 ≤ 2 from by decide) (x' := (⟨(vz l1 0).f0,strOfNums x5_1⟩ : S122)) (k122_mkM _ _ _ (⟨(vz l1 0).f0,strOfNums x5_1⟩ : S122) ) (fun _ hk => hk)
         have hx34_1 := hcc34 1 _ rfl
         (try simp only [show (k122).sz = 2 from rfl,Nat.mul_one,Nat.add_zero] at hx34_1)
         (try rw [show ((0 : Int)).toNat = 0 from rfl] at hx34_1)
         (try simp only [Nat.reduceMul,Nat.zero_mul,Nat.zero_add,Nat.reduceAdd] at hx34_1)
         have hf34_1 := hfr34 1
         (try simp only [show (k122).sz = 2 from rfl,Nat.mul_one,Nat.add_zero] at hf34_1)
         (try rw [show ((0 : Int)).toNat = 0 from rfl] at hf34_1)
         (try simp only [Nat.reduceMul,Nat.zero_mul,Nat.zero_add,Nat.reduceAdd] at hf34_1)
         clear hcl34 hcc34 hfr34;(try clear hM34)
         go_wp2_with (first | ((with_reducible refine kj (t := 9) (p := 37) rfl ?_);refine kk (t := 9) (p := 37) (v := ?vo_w35) (w1 := (wr.setCell ⟨go32,1,none⟩ (.string (strOfNums x5_1)))) ?hg ?ho ?hn ?hr ?_;(case ho => rfl);(case hg => rfl);(case hn => rfl);(case hr => first | (go_simp;done) | (go_simp;rfl));intro w35 hw;have hg : wr.grownBy w35 (some go32) := (by rw [hw];exact HP34.2);have hp_ : Kd.R k122 122 w35 w0.heap.size (fun k_ => (P1_ k_ ∨ w.heap.size ≤ k_)) (.slice (some ⟨go32,0,none⟩) l1.length co32) y118 := (by rw [hw,Ny118.out];exact HP34.1);clear HP34;have n0_ := qq.mk (hp_);have n1_ := qq.mk (Kd.R_over' (v := (.slice (some ⟨go32,0,none⟩) l1.length co32)) (by (with_reducible repeat (first | apply Kd.jq | apply Kd.zx | apply Kd.jz));exact HO_5.out) (Kd.R_typed HO_1.out) (by decide) hg);have n2_ := qq.mk (vq.grown (by repeat (first | (with_reducible first | exact HI0.out | apply vq.alloc | apply vq.drewN | apply vq.drew | apply vq.set_1 | apply vq.set_2) | exact HI0.out)) hg (vq.own_ne HI0.out HO_1.out (by decide)));have n3_ := qq.mk ((by rw [hw];exact qx (HB.out) GB32.out : Below w0.heap.size w0 w35));have n4_ := qq.mk (kv.of_grown (S := (fun k_ => (P1_ k_) ∨ k_ = g)) hg (by repeat (first | (with_reducible first | exact HK.out | apply kv.alloc | apply kv.drewN | apply kv.drew | refine kv.setCell ?_ (.inl (.inr rfl)) _) | exact HK.out)) (fun k_ e_ => Or.imp_left Or.inl ((HO_1.out.1 k_ e_))));clear HO_1;clear HO_5;clear HI0;clear HB;clear HK;have HO_1 := n0_;have HO_5 := n1_;have HI0 := n2_;have HB := n3_;have HK := n4_;clear n0_ n1_ n2_ n3_ n4_;clear hg hw hp_))
         go_ret
         exact ⟨_,by first | rfl | (simp [jx,jw] <;> rfl) | (simp only [← hji17];first | rfl | (simp [jx,jw] <;> rfl)) | (simp [*,jx,jw] <;> rfl),by (with_reducible repeat (first | apply Kd.jq | apply Kd.zx | apply Kd.jz));exact HO_1.out,by repeat (first | (with_reducible first | exact HI0.out | apply vq.alloc | apply vq.drewN | apply vq.drew | apply vq.set_1 | apply vq.set_2) | exact HI0.out),by repeat (first | (with_reducible first | exact HB.out | apply qj | apply qz | apply qk | refine qx ?_ (vq.ge HI0.out)) | exact HB.out),by repeat (first | (with_reducible first | exact HK.out | apply kv.alloc | apply kv.drewN | apply kv.drew | refine kv.setCell ?_ (.inl (.inr rfl)) _) | exact HK.out)⟩
        ·rw [if_neg c31] at H
         exact absurd H (by simp)
    ·rw [if_neg c19] at H
     exact absurd H (by simp)
   ·rw [if_neg c18] at H
    exact absurd H (by simp)
  ·rw [if_neg c15] at H
   have c15b0 : (t101 == 1) = false := beq_eq_false_iff_ne.mpr c15
   have c15b1 : (t101 != 1) = true := bne_iff_ne.mpr c15
   by_cases c36 : t101 = 2
   ·rw [if_pos c36] at H
    have c36b0 : (t101 == 2) = true := beq_iff_eq.mpr c36
    have c36b1 : (t101 != 2) = false := bne_eq_false_iff_eq.mpr c36
    clear c36
    obtain ⟨y119,hy119⟩ : ∃ y_ : List ByteArray,y_ = (([(⟨#[]⟩ : ByteArray),(⟨#[9]⟩ : ByteArray)] : List ByteArray)) := ⟨_,rfl⟩
    replace H : ((qzx.f s0_0 t102 t103 y119).bind fun bt122 => (if 0 < (l1.length : Int) then (some ((l1.set (0 : Int).toNat (⟨(vz l1 0).f0,bt122.1⟩ : S122)),bt122.2.1,bt122.2.2)) else (none))) = some (r1,r2,r3) := by first | (rw [hy119];with_reducible exact H) | (have H2_ := (Option.bind_some _ _).symm.trans H;rw [hy119];with_reducible exact H2_) | (have H2_ := (Option.bind_some _ _).symm.trans H;with_reducible exact H2_) | with_reducible exact H | (rw [hy119];exact H) | exact H
    have Ny119 := qq.mk hy119
    clear hy119
    replace H := Option.bind_eq_some_iff.mp H
    obtain ⟨⟨t122,t123,t124⟩,A370,H⟩ := H
    replace H : (if 0 < (l1.length : Int) then (some ((l1.set (0 : Int).toNat (⟨(vz l1 0).f0,t122⟩ : S122)),t123,t124)) else (none)) = some (r1,r2,r3) := H
    have A37 := qq.mk A370
    clear A370
    by_cases c38 : 0 < (l1.length : Int)
    ·rw [if_pos c38] at H
     have c38b0 : decide (0 < (l1.length : Int)) = true := decide_eq_true c38
     have c38b1 : decide (0 < l1.length) = true := decide_eq_true (by omega)
     clear c38
     obtain ⟨y125,hy125⟩ : ∃ y_ : List (S122),y_ = (l1.set (0 : Int).toNat (⟨(vz l1 0).f0,t122⟩ : S122)) := ⟨_,rfl⟩
     replace H : (some (y125,t123,t124)) = some (r1,r2,r3) := by first | (rw [hy125];with_reducible exact H) | (have H2_ := (Option.bind_some _ _).symm.trans H;rw [hy125];with_reducible exact H2_) | (have H2_ := (Option.bind_some _ _).symm.trans H;with_reducible exact H2_) | with_reducible exact H | (rw [hy125];exact H) | exact H
     have Ny125 := qq.mk hy125
     clear hy125
     simp only [Option.some.injEq,Prod.mk.injEq] at H
     obtain ⟨rfl,rfl,rfl⟩ := H
     go_enter Try.func99,Try.ntmps99
     go_wp2_with (first | ((with_reducible refine kz (f := 54) rfl ?_);refine goesL_ (some 9) rfl rfl Try.func54 (by kernel_rfl) rfl #[.pointer (some ⟨g,0,none⟩),.int .i64 14] rfl (by (try simp only [List.map_toArray,List.map_cons,List.map_nil]);first | done | rfl | (simp only [List.length_drop,List.length_take];rfl)) ?_;(with_reducible refine (qjz.calls g s0_0 s0_1 s0_2 14 t101 t102 t103 w0 _ ?side1 ?side2 A3.out).mono ?_);(case side1 => repeat (first | (with_reducible first | exact HI0.out | apply vq.alloc | apply vq.drewN | apply vq.drew | apply vq.set_1 | apply vq.set_2) | exact HI0.out));(case side2 => repeat (first | (with_reducible first | exact HB.out | apply qj | apply qz | apply qk | refine qx ?_ (vq.ge HI0.out)) | exact HB.out));rintro e w40 ⟨rfl,hi,hb,hk⟩;refine ⟨_,rfl,?_⟩;have n0_ := qq.mk (Kd.R_mono (Kd.R_keep (vq.apart (show vq w0 _ g s0_0 s0_1 s0_2 from by repeat (first | (with_reducible first | exact HI0.out | apply vq.alloc | apply vq.drewN | apply vq.drew | apply vq.set_1 | apply vq.set_2) | exact HI0.out)) (by (with_reducible repeat (first | apply Kd.jq | apply Kd.zx | apply Kd.jz));exact HO1.out) (by decide)) hk (fun _ h => h.2)) (fun _ h => h.1));have n1_ := qq.mk (kv.of_keep (S := (fun k_ => (P1_ k_) ∨ k_ = g)) (by repeat (first | (with_reducible first | exact HK.out | apply kv.alloc | apply kv.drewN | apply kv.drew | refine kv.setCell ?_ (.inl (.inr rfl)) _) | exact HK.out)) hk (.inl (.inr rfl)));have n2_ := qq.mk (hb);have n3_ := qq.mk (hi);clear HO1;clear HK;clear HB;clear HI0;have HO1 := n0_;have HK := n1_;have HB := n2_;have HI0 := n3_;clear n0_ n1_ n2_ n3_;(try clear hb);(try clear hb2);(try clear hk);(try clear hi)) | ((with_reducible refine gate_dst (N := 42) rfl ?_);refine Kd.R_lit Kd.string _ 9 ?hg (N := 42) ?hd (xs := ([(⟨#[]⟩ : ByteArray),(⟨#[9]⟩ : ByteArray)] : List ByteArray)) (inner := [.string (⟨#[]⟩ : ByteArray),.string (⟨#[9]⟩ : ByteArray)]) (ok := fun _ => True) (okp := fun _ => True) ?hr ?hp (fun _ hk => hk) trivial (Below.refl _ _) (Nat.le_refl _) (by simp) ?_;(case hd => rfl);(case hg => rfl);(case hr => first | (go_simp;done) | (go_simp;rfl));(case hp => exact (Reps.one (show Kd.M Kd.string _ _ _ (⟨#[]⟩ : ByteArray) [.string (⟨#[]⟩ : ByteArray)] from rfl) (Reps.one (show Kd.M Kd.string _ _ _ (⟨#[9]⟩ : ByteArray) [.string (⟨#[9]⟩ : ByteArray)] from rfl) (Reps.none _ _))));intro v120 w41 ho42 hb hg_ hnew_;clear hg_ hnew_;(first | rw [← Ny119.out] at ho42 | (simp only [Int.reduceToNat] at ho42;rw [← Ny119.out] at ho42));have n0_ := qq.mk (Kd.R_below (by (with_reducible repeat (first | apply Kd.jq | apply Kd.zx | apply Kd.jz));exact HO1.out) hb);have n1_ := qq.mk (Kd.R_lower (Kd.R_newM (M := fun k_ => (P1_ k_ ∨ w.heap.size ≤ k_)) ho42 (by first | exact HK.out.1 | exact (show kv w _ (fun k_ => (P1_ k_) ∨ k_ = g) from by repeat (first | (with_reducible first | exact HK.out | apply kv.alloc | apply kv.drewN | apply kv.drew | refine kv.setCell ?_ (.inl (.inr rfl)) _) | exact HK.out)).1) (fun k_ h_ => .inr h_)) (zw (by repeat (first | (with_reducible first | exact HB.out | apply qj | apply qz | apply qk | refine qx ?_ (vq.ge HI0.out)) | exact HB.out))));have n2_ := qq.mk (vq.below (by repeat (first | (with_reducible first | exact HI0.out | apply vq.alloc | apply vq.drewN | apply vq.drew | apply vq.set_1 | apply vq.set_2) | exact HI0.out)) hb);have n3_ := qq.mk (kv.below (S := (fun k_ => (P1_ k_) ∨ k_ = g)) (by repeat (first | (with_reducible first | exact HK.out | apply kv.alloc | apply kv.drewN | apply kv.drew | refine kv.setCell ?_ (.inl (.inr rfl)) _) | exact HK.out)) hb);have n4_ := qq.mk (zv (by repeat (first | (with_reducible first | exact HB.out | apply qj | apply qz | apply qk | refine qx ?_ (vq.ge HI0.out)) | exact HB.out)) hb);clear HO1;clear HI0;clear HK;clear HB;have HO1 := n0_;have HO121 := n1_;have HI0 := n2_;have HK := n3_;have HB := n4_;clear n0_ n1_ n2_ n3_ n4_;clear hb ho42;obtain ⟨Ao43,co43,eo43⟩ := Kd.R_slice HO121.out;subst eo43) | ((with_reducible refine kz (f := 55) rfl ?_);refine goesL_ (some 43) rfl rfl Try.func55 (by kernel_rfl) rfl #[.pointer (some ⟨g,0,none⟩),.slice Ao43 y119.length co43] rfl (by (try simp only [List.map_toArray,List.map_cons,List.map_nil]);first | done | rfl | (simp only [List.length_drop,List.length_take];rfl)) ?_;(with_reducible refine (qzx.calls g s0_0 t102 t103 _ _ y119 t122 t123 t124 w0 _ ?side1 ?side2 ?side3 ?side4 ?side5 A37.out).mono ?_);(case side1 => repeat (first | (with_reducible first | exact HI0.out | apply vq.alloc | apply vq.drewN | apply vq.drew | apply vq.set_1 | apply vq.set_2) | exact HI0.out));(case side2 => repeat (first | (with_reducible first | exact HB.out | apply qj | apply qz | apply qk | refine qx ?_ (vq.ge HI0.out)) | exact HB.out));(case side3 => repeat (first | exact (Kd.R_reads' HO121.out).2.2 | (with_reducible refine Kd.C_alloc ?_ _) | (with_reducible refine Kd.C_drewN ?_ _) | (with_reducible refine Kd.C_drew ?_)));(case side4 => exact (Kd.R_reads' HO121.out).2.1);(case side5 => exact far_slice (vq.own_ne HI0.out HO121.out (by decide)));rintro e w44 ⟨rfl,hi,hb,hk⟩;refine ⟨_,rfl,?_⟩;have n0_ := qq.mk (Kd.R_mono (Kd.R_keep (vq.apart (show vq w0 _ g s0_0 t102 t103 from by repeat (first | (with_reducible first | exact HI0.out | apply vq.alloc | apply vq.drewN | apply vq.drew | apply vq.set_1 | apply vq.set_2) | exact HI0.out)) (by (with_reducible repeat (first | apply Kd.jq | apply Kd.zx | apply Kd.jz));exact HO1.out) (by decide)) hk (fun _ h => h.2)) (fun _ h => h.1));have n1_ := qq.mk (Kd.R_mono (Kd.R_keep (vq.apart (show vq w0 _ g s0_0 t102 t103 from by repeat (first | (with_reducible first | exact HI0.out | apply vq.alloc | apply vq.drewN | apply vq.drew | apply vq.set_1 | apply vq.set_2) | exact HI0.out)) (by (with_reducible repeat (first | apply Kd.jq | apply Kd.zx | apply Kd.jz));exact HO121.out) (by decide)) hk (fun _ h => h.2)) (fun _ h => h.1));have n2_ := qq.mk (kv.of_keep (S := (fun k_ => (P1_ k_) ∨ k_ = g)) (by repeat (first | (with_reducible first | exact HK.out | apply kv.alloc | apply kv.drewN | apply kv.drew | refine kv.setCell ?_ (.inl (.inr rfl)) _) | exact HK.out)) hk (.inl (.inr rfl)));have n3_ := qq.mk (hb);have n4_ := qq.mk (hi);clear HO1;clear HO121;clear HK;clear HB;clear HI0;have HO1 := n0_;have HO121 := n1_;have HK := n2_;have HB := n3_;have HI0 := n4_;clear n0_ n1_ n2_ n3_ n4_;(try clear hb);(try clear hb2);(try clear hk);(try clear hi);have p39 : 0 ≤ (0 : Int) := (by omega);have q39 : (0 : Int) < ((l1.length : Int) : Int) := of_decide_eq_true (by assumption);have qi39 : (0 < l1.length) = True := eq_true (by omega);obtain ⟨go39,co39,eo39,gb39,gl39,cl39,HG39⟩ := Kd.R_form HO1.out (by omega);(first | cases eo39 | (injection eo39 with ea_ en_ ec_;(first | subst ea_ | (injection ea_ with ea_;subst ea_));subst ec_;clear en_));have GB39 := qq.mk gb39;have GG39 := qq.mk HG39;clear gb39 gl39 HG39;have HMgo39 := qq.mk (show (P1_ go39 ∨ w.heap.size ≤ go39) from (HO1.out.1 _ rfl));obtain ⟨ce39,hcl39,hM39,hcc39,hfr39⟩ := Kd.R_elem HO1.out z122 (0 : Int) p39 q39;obtain rfl := k122_openM hM39;have hx39_0 : w44.cell? ⟨go39,(0 : Int).toNat * 2,none⟩ = some (.string ((vz l1 0).f0)) := hcc39 0 _ rfl;have hx39_1 : w44.cell? ⟨go39,(0 : Int).toNat * 2 + 1,none⟩ = some (.string ((vz l1 0).f1)) := hcc39 1 _ rfl;have hf39_0 : w44.frozen? ⟨go39,(0 : Int).toNat * 2,none⟩ = false := hfr39 0;have hf39_1 : w44.frozen? ⟨go39,(0 : Int).toNat * 2 + 1,none⟩ = false := hfr39 1;clear hcl39 hcc39 hfr39;(try clear hM39);(try rw [show ((0 : Int)).toNat = 0 from rfl] at hx39_0);(try simp only [Nat.reduceMul,Nat.zero_mul,Nat.zero_add,Nat.reduceAdd] at hx39_0);(try rw [show ((0 : Int)).toNat = 0 from rfl] at hf39_0);(try simp only [Nat.reduceMul,Nat.zero_mul,Nat.zero_add,Nat.reduceAdd] at hf39_0);(try rw [show ((0 : Int)).toNat = 0 from rfl] at hx39_1);(try simp only [Nat.reduceMul,Nat.zero_mul,Nat.zero_add,Nat.reduceAdd] at hx39_1);(try rw [show ((0 : Int)).toNat = 0 from rfl] at hf39_1);(try simp only [Nat.reduceMul,Nat.zero_mul,Nat.zero_add,Nat.reduceAdd] at hf39_1);replace p39 := eq_true p39;replace q39 := eq_true q39;have HX45 := qq.mk (show Kd.R k122 122 w44 w0.heap.size (fun k_ => (P1_ k_ ∨ w.heap.size ≤ k_)) (.slice (some ⟨go39,0,none⟩) l1.length co39) l1 from (by (with_reducible repeat (first | apply Kd.jq | apply Kd.zx | apply Kd.jz));exact HO1.out));obtain ⟨ce45,hcl45,hM45,hcc45,hfr45⟩ := Kd.R_elem HX45.out z122 (0 : Int) (by omega) (by have h_ : (0 : Int) < ((l1.length : Int) : Int) := of_decide_eq_true (by assumption);first | exact h_ | (have e_ := (Kd.R_reads' HO1.out).1;omega) | simpa using h_);obtain rfl := k122_openM hM45;have HP45 := Kd.R_seg HX45.out (0 : Int) (by omega) (by have h_ : (0 : Int) < ((l1.length : Int) : Int) := of_decide_eq_true (by assumption);first | exact h_ | (have e_ := (Kd.R_reads' HO1.out).1;omega) | simpa using h_) (seg := [.string t122]) (j := 1) hcl45 hcc45 (show 2 ≤ 2 from by decide) (x' := (⟨(vz l1 0).f0,t122⟩ : S122)) (k122_mkM _ _ _ (⟨(vz l1 0).f0,t122⟩ : S122) ) (fun _ hk => hk);have hx45_1 := hcc45 1 _ rfl;(try simp only [show (k122).sz = 2 from rfl,Nat.mul_one,Nat.add_zero] at hx45_1);(try rw [show ((0 : Int)).toNat = 0 from rfl] at hx45_1);(try simp only [Nat.reduceMul,Nat.zero_mul,Nat.zero_add,Nat.reduceAdd] at hx45_1);have hf45_1 := hfr45 1;(try simp only [show (k122).sz = 2 from rfl,Nat.mul_one,Nat.add_zero] at hf45_1);(try rw [show ((0 : Int)).toNat = 0 from rfl] at hf45_1);(try simp only [Nat.reduceMul,Nat.zero_mul,Nat.zero_add,Nat.reduceAdd] at hf45_1);clear hcl45 hcc45 hfr45;(try clear hM45)) | ((with_reducible refine kj (t := 9) (p := 45) rfl ?_);refine kk (t := 9) (p := 45) (v := ?vo_w46) (w1 := (w44.setCell ⟨go39,1,none⟩ (.string t122))) ?hg ?ho ?hn ?hr ?_;(case ho => rfl);(case hg => rfl);(case hn => rfl);(case hr => first | (go_simp;done) | (go_simp;rfl));intro w46 hw;have hg : w44.grownBy w46 (some go39) := (by rw [hw];exact HP45.2);have hp_ : Kd.R k122 122 w46 w0.heap.size (fun k_ => (P1_ k_ ∨ w.heap.size ≤ k_)) (.slice (some ⟨go39,0,none⟩) l1.length co39) y125 := (by rw [hw,Ny125.out];exact HP45.1);clear HP45;have n0_ := qq.mk (vq.grown (by repeat (first | (with_reducible first | exact HI0.out | apply vq.alloc | apply vq.drewN | apply vq.drew | apply vq.set_1 | apply vq.set_2) | exact HI0.out)) hg (vq.own_ne HI0.out HO1.out (by decide)));have n1_ := qq.mk (hp_);have n2_ := qq.mk (Kd.R_over' (v := (.slice (some ⟨go39,0,none⟩) l1.length co39)) (by (with_reducible repeat (first | apply Kd.jq | apply Kd.zx | apply Kd.jz));exact HO121.out) (Kd.R_typed HO1.out) (by decide) hg);have n3_ := qq.mk ((by rw [hw];exact qx (HB.out) GB39.out : Below w0.heap.size w0 w46));have n4_ := qq.mk (kv.of_grown (S := (fun k_ => (P1_ k_) ∨ k_ = g)) hg (by repeat (first | (with_reducible first | exact HK.out | apply kv.alloc | apply kv.drewN | apply kv.drew | refine kv.setCell ?_ (.inl (.inr rfl)) _) | exact HK.out)) (fun k_ e_ => Or.imp_left Or.inl ((HO1.out.1 k_ e_))));clear HI0;clear HO1;clear HO121;clear HB;clear HK;have HI0 := n0_;have HO1 := n1_;have HO121 := n2_;have HB := n3_;have HK := n4_;clear n0_ n1_ n2_ n3_ n4_;clear hg hw hp_))
     go_ret
     exact ⟨_,by first | rfl | (simp [*,jx,jw] <;> rfl),by (with_reducible repeat (first | apply Kd.jq | apply Kd.zx | apply Kd.jz));exact HO1.out,by repeat (first | (with_reducible first | exact HI0.out | apply vq.alloc | apply vq.drewN | apply vq.drew | apply vq.set_1 | apply vq.set_2) | exact HI0.out),by repeat (first | (with_reducible first | exact HB.out | apply qj | apply qz | apply qk | refine qx ?_ (vq.ge HI0.out)) | exact HB.out),by repeat (first | (with_reducible first | exact HK.out | apply kv.alloc | apply kv.drewN | apply kv.drew | refine kv.setCell ?_ (.inl (.inr rfl)) _) | exact HK.out)⟩
    ·rw [if_neg c38] at H
     exact absurd H (by simp)
   ·rw [if_neg c36] at H
    have c36b0 : (t101 == 2) = false := beq_eq_false_iff_ne.mpr c36
    have c36b1 : (t101 != 2) = true := bne_iff_ne.mpr c36
    by_cases c47 : t101 = 3
    ·rw [if_pos c47] at H
     have c47b0 : (t101 == 3) = true := beq_iff_eq.mpr c47
     have c47b1 : (t101 != 3) = false := bne_eq_false_iff_eq.mpr c47
     clear c47
     replace H := Option.bind_eq_some_iff.mp H
     obtain ⟨⟨t126,t127,t128⟩,A480,H⟩ := H
     replace H : (qzw.l1 k l1 (wrap64 (7 + t126)) s0_0 t127 t128) = some (r1,r2,r3) := H
     have A48 := qq.mk A480
     clear A480
     have H' := qq.mk H
     clear H
     go_enter Try.func99,Try.ntmps99
     go_wp2_with (first | ((with_reducible refine kz (f := 54) rfl ?_);refine goesL_ (some 9) rfl rfl Try.func54 (by kernel_rfl) rfl #[.pointer (some ⟨g,0,none⟩),.int .i64 14] rfl (by (try simp only [List.map_toArray,List.map_cons,List.map_nil]);first | done | rfl | (simp only [List.length_drop,List.length_take];rfl)) ?_;(with_reducible refine (qjz.calls g s0_0 s0_1 s0_2 14 t101 t102 t103 w0 _ ?side1 ?side2 A3.out).mono ?_);(case side1 => repeat (first | (with_reducible first | exact HI0.out | apply vq.alloc | apply vq.drewN | apply vq.drew | apply vq.set_1 | apply vq.set_2) | exact HI0.out));(case side2 => repeat (first | (with_reducible first | exact HB.out | apply qj | apply qz | apply qk | refine qx ?_ (vq.ge HI0.out)) | exact HB.out));rintro e w49 ⟨rfl,hi,hb,hk⟩;refine ⟨_,rfl,?_⟩;have n0_ := qq.mk (Kd.R_mono (Kd.R_keep (vq.apart (show vq w0 _ g s0_0 s0_1 s0_2 from by repeat (first | (with_reducible first | exact HI0.out | apply vq.alloc | apply vq.drewN | apply vq.drew | apply vq.set_1 | apply vq.set_2) | exact HI0.out)) (by (with_reducible repeat (first | apply Kd.jq | apply Kd.zx | apply Kd.jz));exact HO1.out) (by decide)) hk (fun _ h => h.2)) (fun _ h => h.1));have n1_ := qq.mk (kv.of_keep (S := (fun k_ => (P1_ k_) ∨ k_ = g)) (by repeat (first | (with_reducible first | exact HK.out | apply kv.alloc | apply kv.drewN | apply kv.drew | refine kv.setCell ?_ (.inl (.inr rfl)) _) | exact HK.out)) hk (.inl (.inr rfl)));have n2_ := qq.mk (hb);have n3_ := qq.mk (hi);clear HO1;clear HK;clear HB;clear HI0;have HO1 := n0_;have HK := n1_;have HB := n2_;have HI0 := n3_;clear n0_ n1_ n2_ n3_;(try clear hb);(try clear hb2);(try clear hk);(try clear hi)) | ((with_reducible refine kz (f := 54) rfl ?_);refine goesL_ (some 49) rfl rfl Try.func54 (by kernel_rfl) rfl #[.pointer (some ⟨g,0,none⟩),.int .i64 3] rfl (by (try simp only [List.map_toArray,List.map_cons,List.map_nil]);first | done | rfl | (simp only [List.length_drop,List.length_take];rfl)) ?_;(with_reducible refine (qjz.calls g s0_0 t102 t103 3 t126 t127 t128 w0 _ ?side1 ?side2 A48.out).mono ?_);(case side1 => repeat (first | (with_reducible first | exact HI0.out | apply vq.alloc | apply vq.drewN | apply vq.drew | apply vq.set_1 | apply vq.set_2) | exact HI0.out));(case side2 => repeat (first | (with_reducible first | exact HB.out | apply qj | apply qz | apply qk | refine qx ?_ (vq.ge HI0.out)) | exact HB.out));rintro e w50 ⟨rfl,hi,hb,hk⟩;refine ⟨_,rfl,?_⟩;have n0_ := qq.mk (Kd.R_mono (Kd.R_keep (vq.apart (show vq w0 _ g s0_0 t102 t103 from by repeat (first | (with_reducible first | exact HI0.out | apply vq.alloc | apply vq.drewN | apply vq.drew | apply vq.set_1 | apply vq.set_2) | exact HI0.out)) (by (with_reducible repeat (first | apply Kd.jq | apply Kd.zx | apply Kd.jz));exact HO1.out) (by decide)) hk (fun _ h => h.2)) (fun _ h => h.1));have n1_ := qq.mk (kv.of_keep (S := (fun k_ => (P1_ k_) ∨ k_ = g)) (by repeat (first | (with_reducible first | exact HK.out | apply kv.alloc | apply kv.drewN | apply kv.drew | refine kv.setCell ?_ (.inl (.inr rfl)) _) | exact HK.out)) hk (.inl (.inr rfl)));have n2_ := qq.mk (hb);have n3_ := qq.mk (hi);clear HO1;clear HK;clear HB;clear HI0;have HO1 := n0_;have HK := n1_;have HB := n2_;have HI0 := n3_;clear n0_ n1_ n2_ n3_;(try clear hb);(try clear hb2);(try clear hk);(try clear hi)))
     go_loopg [1] k (fun kq v1 w' => ∃ (x1_1 : List (S122)),qq (qzw.l1 kq x1_1 (wrap64 (7 + t126)) s0_0 t127 t128 = some (r1,r2,r3)) ∧ qq (kq ≤ k) ∧ qq (Kd.R k122 122 w' w0.heap.size (fun k_ => (P1_ k_ ∨ w.heap.size ≤ k_)) v1 x1_1) ∧ qq (vq w0 w' g s0_0 t127 t128) ∧ qq (kv w w' (fun k_ => (P1_ k_) ∨ k_ = g)) ∧ qq (Below w0.heap.size w0 w'))
     case atStart => exact ⟨(l1),H',⟨Nat.le_refl _⟩,⟨by (with_reducible repeat (first | apply Kd.jq | apply Kd.zx | apply Kd.jz));exact HO1.out⟩,⟨by repeat (first | (with_reducible first | exact HI0.out | apply vq.alloc | apply vq.drewN | apply vq.drew | apply vq.set_1 | apply vq.set_2) | exact HI0.out)⟩,⟨by repeat (first | (with_reducible first | exact HK.out | apply kv.alloc | apply kv.drewN | apply kv.drew | refine kv.setCell ?_ (.inl (.inr rfl)) _) | exact HK.out)⟩,⟨by repeat (first | (with_reducible first | exact HB.out | apply qj | apply qz | apply qk | refine qx ?_ (vq.ge HI0.out)) | exact HB.out)⟩⟩
     case round =>
      clear H'
      try clear c1
      try clear hx1
      try clear c2
      try clear p2
      try clear q2
      try clear hx2
      try clear hf2
      try clear c3
      try clear p3
      try clear q3
      try clear hx3
      try clear hcv3
      try clear qi3
      try clear hf3
      try clear c4
      try clear c4b0
      try clear c4b1
      try clear hx4
      try clear hf4
      try clear c5
      try clear c6
      try clear c6b0
      try clear c6b1
      try clear p6
      try clear c7
      try clear p7
      try clear q7
      try clear hx7
      try clear qi7
      try clear hf7
      try clear c9
      try clear c13
      try clear hx13
      try clear hf13
      try clear c15
      try clear c15b0
      try clear c15b1
      try clear c18
      try clear c18b0
      try clear c18b1
      try clear c19
      try clear c19b0
      try clear c19b1
      try clear c25
      try clear c25b0
      try clear c26
      try clear c26b0
      try clear c27
      try clear c27b0
      try clear p28
      try clear q28
      try clear hx28
      try clear hf28
      try clear c31
      try clear c31b0
      try clear c31b1
      try clear c32
      try clear p32
      try clear q32
      try clear hx32
      try clear qi32
      try clear hf32
      try clear hcv33
      try clear c34
      try clear hx34
      try clear hf34
      try clear c36
      try clear c36b0
      try clear c36b1
      try clear c38
      try clear c38b0
      try clear c38b1
      try clear c39
      try clear p39
      try clear q39
      try clear hx39
      try clear qi39
      try clear hf39
      try clear c45
      try clear hx45
      try clear hf45
      try clear c47
      try clear c47b0
      try clear c47b1
      try clear hx13_0
      try clear hx28_0
      try clear hx32_0
      try clear hx32_1
      try clear hx34_1
      try clear hx39_0
      try clear hx39_1
      try clear hx45_1
      try clear hx7_0
      try clear hx7_1
      try clear p2
      try clear p28
      try clear p32
      try clear p39
      try clear p6
      try clear p7
      try clear q28
      try clear q32
      try clear q39
      try clear q7
      obtain ⟨x1_1,HA,HK1,HO_1,HI0,HK,HB⟩ := hrel
      cases gk with
      | zero => exact absurd HA.out (by simp [qzw.l1])
      | succ k1 =>
       have H := HA.out
       clear HA
       simp only [qzw.l1] at H
       by_cases c51 : (x1_1.length : Int) < (wrap64 (7 + t126))
       ·rw [if_pos c51] at H
        have c51b0 : decide ((x1_1.length : Int) < (wrap64 (7 + t126))) = true := decide_eq_true c51
        clear c51
        by_cases c52 : x1_1.length < 4398046511104
        ·rw [if_pos c52] at H
         have LMc52 := qq.mk c52
         clear c52
         obtain ⟨y129,hy129⟩ : ∃ y_ : List (S122),y_ = (x1_1 ++ [(⟨(⟨#[120]⟩ : ByteArray),(⟨#[121]⟩ : ByteArray)⟩ : S122)]) := ⟨_,rfl⟩
         replace H : (qzw.l1 k1 y129 (wrap64 (7 + t126)) s0_0 t127 t128) = some (r1,r2,r3) := by first | (rw [hy129];with_reducible exact H) | (have H2_ := (Option.bind_some _ _).symm.trans H;rw [hy129];with_reducible exact H2_) | (have H2_ := (Option.bind_some _ _).symm.trans H;with_reducible exact H2_) | with_reducible exact H | (rw [hy129];exact H) | exact H
         have Ny129 := qq.mk hy129
         clear hy129
         have H' := qq.mk H
         clear H
         obtain ⟨Ao53,co53,eo53⟩ := Kd.R_slice HO_1.out
         subst eo53
         go_wp2_with (first | ((with_reducible refine gate_builtin (b := .append) (xs := #[.tmp 55,.tmp 57]) rfl ?_);at_builtin;refine Kd.R_append k122 (w0 := w0) w0.heap.size rfl (.tmp 55) (.tmp 57) 62 122 (.agg #[(.string ⟨#[]⟩),(.string ⟨#[]⟩)]) 32 rfl Try.underlying62 info122 rfl (by decide) (by omega) (.slice Ao53 x1_1.length co53) x1_1 (⟨(⟨#[120]⟩ : ByteArray),(⟨#[121]⟩ : ByteArray)⟩ : S122) [.string (⟨#[120]⟩ : ByteArray),.string (⟨#[121]⟩ : ByteArray)] (fun k_ => (P1_ k_ ∨ w.heap.size ≤ k_)) (fun _ => False) rfl rfl ?aP (fun _ hk => hk.elim) ?aF ?aO ?aB ?aS ?aL ?_;(case aP => exact k122_mkM _ _ _ (⟨(⟨#[120]⟩ : ByteArray),(⟨#[121]⟩ : ByteArray)⟩ : S122));(case aB => exact (by repeat (first | (with_reducible first | exact HB.out | apply qj | apply qz | apply qk | refine qx ?_ (vq.ge HI0.out)) | exact HB.out)));(case aF => exact (fun k_ hk => (.inr (Nat.le_trans (by first | exact HK.out.1 | exact (show kv w _ (fun k_ => (P1_ k_) ∨ k_ = g) from by repeat (first | (with_reducible first | exact HK.out | apply kv.alloc | apply kv.drewN | apply kv.drew | refine kv.setCell ?_ (.inl (.inr rfl)) _) | exact HK.out)).1) hk))));(case aO => exact (by (with_reducible repeat (first | apply Kd.jq | apply Kd.zx | apply Kd.jz));exact HO_1.out));(case aS => exact (zw (by repeat (first | (with_reducible first | exact HB.out | apply qj | apply qz | apply qk | refine qx ?_ (vq.ge HI0.out)) | exact HB.out))));(case aL => have := LMc52.out;omega);intro v130 w54 ho hb hg hat;rw [← Ny129.out] at ho;have n0_ := qq.mk (vq.grown (by repeat (first | (with_reducible first | exact HI0.out | apply vq.alloc | apply vq.drewN | apply vq.drew | apply vq.set_1 | apply vq.set_2) | exact HI0.out)) hg (vq.own_ne HI0.out HO_1.out (by decide)));have n1_ := qq.mk (hb);have n2_ := qq.mk (kv.of_grown (S := (fun k_ => (P1_ k_) ∨ k_ = g)) hg (by repeat (first | (with_reducible first | exact HK.out | apply kv.alloc | apply kv.drewN | apply kv.drew | refine kv.setCell ?_ (.inl (.inr rfl)) _) | exact HK.out)) (fun k_ e_ => Or.imp_left Or.inl ((HO_1.out.1 k_ e_))));have n3_ := qq.mk (ho);clear HI0;clear HB;clear HK;clear HO_1;have HI0 := n0_;have HB := n1_;have HK := n2_;have HO131 := n3_;clear n0_ n1_ n2_ n3_;clear ho hb hg hat))
         go_roundg k1
         case measure => have := HK1.out;omega
         case rel => exact ⟨(y129),H',⟨by have := HK1.out;omega⟩,⟨by (with_reducible repeat (first | apply Kd.jq | apply Kd.zx | apply Kd.jz));exact HO131.out⟩,⟨by repeat (first | (with_reducible first | exact HI0.out | apply vq.alloc | apply vq.drewN | apply vq.drew | apply vq.set_1 | apply vq.set_2) | exact HI0.out)⟩,⟨by repeat (first | (with_reducible first | exact HK.out | apply kv.alloc | apply kv.drewN | apply kv.drew | refine kv.setCell ?_ (.inl (.inr rfl)) _) | exact HK.out)⟩,⟨by repeat (first | (with_reducible first | exact HB.out | apply qj | apply qz | apply qk | refine qx ?_ (vq.ge HI0.out)) | exact HB.out)⟩⟩
        ·rw [if_neg c52] at H
         exact absurd H (by simp)
       ·rw [if_neg c51] at H
        have c51b0 : decide ((x1_1.length : Int) < (wrap64 (7 + t126))) = false := decide_eq_false c51
        clear c51
        simp only [Option.some.injEq,Prod.mk.injEq] at H
        obtain ⟨rfl,rfl,rfl⟩ := H
        obtain ⟨Ao55,co55,eo55⟩ := Kd.R_slice HO_1.out
        subst eo55
        go_wp2
        go_ret
        exact ⟨_,by first | rfl | (simp [*,jx,jw] <;> rfl),by (with_reducible repeat (first | apply Kd.jq | apply Kd.zx | apply Kd.jz));exact HO_1.out,by repeat (first | (with_reducible first | exact HI0.out | apply vq.alloc | apply vq.drewN | apply vq.drew | apply vq.set_1 | apply vq.set_2) | exact HI0.out),by repeat (first | (with_reducible first | exact HB.out | apply qj | apply qz | apply qk | refine qx ?_ (vq.ge HI0.out)) | exact HB.out),by repeat (first | (with_reducible first | exact HK.out | apply kv.alloc | apply kv.drewN | apply kv.drew | refine kv.setCell ?_ (.inl (.inr rfl)) _) | exact HK.out)⟩
    ·rw [if_neg c47] at H
     have c47b0 : (t101 == 3) = false := beq_eq_false_iff_ne.mpr c47
     have c47b1 : (t101 != 3) = true := bne_iff_ne.mpr c47
     simp only [Option.some.injEq,Prod.mk.injEq] at H
     obtain ⟨rfl,rfl,rfl⟩ := H
     go_enter Try.func99,Try.ntmps99
     go_wp2_with (first | ((with_reducible refine kz (f := 54) rfl ?_);refine goesL_ (some 9) rfl rfl Try.func54 (by kernel_rfl) rfl #[.pointer (some ⟨g,0,none⟩),.int .i64 14] rfl (by (try simp only [List.map_toArray,List.map_cons,List.map_nil]);first | done | rfl | (simp only [List.length_drop,List.length_take];rfl)) ?_;(with_reducible refine (qjz.calls g s0_0 s0_1 s0_2 14 t101 t102 t103 w0 _ ?side1 ?side2 A3.out).mono ?_);(case side1 => repeat (first | (with_reducible first | exact HI0.out | apply vq.alloc | apply vq.drewN | apply vq.drew | apply vq.set_1 | apply vq.set_2) | exact HI0.out));(case side2 => repeat (first | (with_reducible first | exact HB.out | apply qj | apply qz | apply qk | refine qx ?_ (vq.ge HI0.out)) | exact HB.out));rintro e w56 ⟨rfl,hi,hb,hk⟩;refine ⟨_,rfl,?_⟩;have n0_ := qq.mk (Kd.R_mono (Kd.R_keep (vq.apart (show vq w0 _ g s0_0 s0_1 s0_2 from by repeat (first | (with_reducible first | exact HI0.out | apply vq.alloc | apply vq.drewN | apply vq.drew | apply vq.set_1 | apply vq.set_2) | exact HI0.out)) (by (with_reducible repeat (first | apply Kd.jq | apply Kd.zx | apply Kd.jz));exact HO1.out) (by decide)) hk (fun _ h => h.2)) (fun _ h => h.1));have n1_ := qq.mk (kv.of_keep (S := (fun k_ => (P1_ k_) ∨ k_ = g)) (by repeat (first | (with_reducible first | exact HK.out | apply kv.alloc | apply kv.drewN | apply kv.drew | refine kv.setCell ?_ (.inl (.inr rfl)) _) | exact HK.out)) hk (.inl (.inr rfl)));have n2_ := qq.mk (hb);have n3_ := qq.mk (hi);clear HO1;clear HK;clear HB;clear HI0;have HO1 := n0_;have HK := n1_;have HB := n2_;have HI0 := n3_;clear n0_ n1_ n2_ n3_;(try clear hb);(try clear hb2);(try clear hk);(try clear hi)))
     go_ret
     exact ⟨_,by first | rfl | (simp [*,jx,jw] <;> rfl),by (with_reducible repeat (first | apply Kd.jq | apply Kd.zx | apply Kd.jz));exact HO1.out,by repeat (first | (with_reducible first | exact HI0.out | apply vq.alloc | apply vq.drewN | apply vq.drew | apply vq.set_1 | apply vq.set_2) | exact HI0.out),by repeat (first | (with_reducible first | exact HB.out | apply qj | apply qz | apply qk | refine qx ?_ (vq.ge HI0.out)) | exact HB.out),by repeat (first | (with_reducible first | exact HK.out | apply kv.alloc | apply kv.drewN | apply kv.drew | refine kv.setCell ?_ (.inl (.inr rfl)) _) | exact HK.out)⟩
end Go.Proofs.Ytccbjchlcelkgaa.Pr
namespace Go.Proofs.Ytccbjchlcelkgaa.Pr
open Go.RowKit Go.Proofs.YtccbjchlcelkgaaW.PrintWords Go.Proofs.YtccbjchlcelkgaaW.PrintLast Go.Proofs.YtccbjchlcelkgaaW.PrintMore
attribute [local go_sem] max2_int min2_int max_two min_two max_three min_three max_four min_four
set_option linter.unusedVariables false
set_option linter.unusedSimpArgs false
def qqv.f (k : Nat) (l0 : List Int) : Option ((List (S122))) := (newCur.f l0 0 0).bind fun bt101 => ((qzk.f k bt101.1 bt101.2.1 bt101.2.2).bind fun bt105 => ((qzw.f k bt101.1 bt105.2.1 bt105.2.2 bt105.1).bind fun bt110 => (some bt110.1)))
set_option maxHeartbeats 8000000 in
set_option maxRecDepth 100000 in
theorem qqv.calls (k : Nat) (A0 : Option Addr) (c0 : Nat) (l0 : List Int) (r : List (S122)) (w : World) (hr0 : Kd.C (Kd.int .u8) w A0 l0.length l0) (hc0 : l0.length ≤ c0) (h : qqv.f k l0 = some r) :
  Calls Try.prog 41 #[.slice A0 l0.length c0] w fun e w' => ∃ v0_ : Value,e = .returned (v0_) ∧ Kd.R k122 122 w' w.heap.size (fun _ => True) v0_ r ∧ Below w.heap.size w w' := by
 have hu82 := Try.underlying82
 have HR0 := qq.mk hr0
 have HC0 := qq.mk hc0
 clear hr0 hc0
 have HB := qq.mk (Below.refl w.heap.size w)
 have H : ((newCur.f l0 0 0).bind fun bt101 => ((qzk.f k bt101.1 bt101.2.1 bt101.2.2).bind fun bt105 => ((qzw.f k bt101.1 bt105.2.1 bt105.2.2 bt105.1).bind fun bt110 => (some bt110.1)))) = some r := h
 clear h
 replace H := Option.bind_eq_some_iff.mp H
 obtain ⟨⟨t101,t102,t103⟩,A20,H⟩ := H
 replace H : ((qzk.f k t101 t102 t103).bind fun bt105 => ((qzw.f k t101 bt105.2.1 bt105.2.2 bt105.1).bind fun bt110 => (some bt110.1))) = some r := H
 have A2 := qq.mk A20
 clear A20
 replace H := Option.bind_eq_some_iff.mp H
 obtain ⟨⟨t105,t108,t109⟩,A30,H⟩ := H
 replace H : ((qzw.f k t101 t108 t109 t105).bind fun bt110 => (some bt110.1)) = some r := H
 have A3 := qq.mk A30
 clear A30
 replace H := Option.bind_eq_some_iff.mp H
 obtain ⟨⟨t110,t113,t114⟩,A40,H⟩ := H
 replace H : (some t110) = some r := H
 have A4 := qq.mk A40
 clear A40
 obtain rfl := Option.some.inj H
 go_enter Try.func41,Try.ntmps41
 go_wp2_with (first | ((with_reducible refine gate_box (t := 82) rfl ?_);refine boxGoesL_ (some 6) rfl rfl (t := 82) (cs := #[.slice A0 l0.length c0,.int .i64 0,.int .u64 0]) (by first | (go_simp;done) | (go_simp;rfl)) ?_;(with_reducible refine (newCur.calls _ _ l0 0 0 t101 t102 t103 w _ ?side1 ?side2 ?side3 A2.out).mono ?_);(case side1 => repeat (first | (with_reducible first | exact HB.out | apply qj | apply qz | apply qk) | exact HB.out));(case side2 => exact HR0.out);(case side3 => exact HC0.out);rintro e w5 ⟨g104,rfl,hi,hb,hb2⟩;refine ⟨_,rfl,?_⟩;have n0_ := qq.mk (hb);have n1_ := qq.mk (hi);clear HB;have HB := n0_;have HI104 := n1_;clear n0_ n1_;(try clear hb);(try clear hb2);(try clear hk);(try clear hi)) | ((with_reducible refine kz (f := 100) rfl ?_);refine goesL_ (some 9) rfl rfl Try.func100 (by kernel_rfl) rfl #[.pointer (some ⟨g104,0,none⟩)] rfl (by (try simp only [List.map_toArray,List.map_cons,List.map_nil]);first | done | rfl | (simp only [List.length_drop,List.length_take];rfl)) ?_;(with_reducible refine (qzk.calls k g104 t101 t102 t103 t105 t108 t109 w _ ?side1 ?side2 A3.out).mono ?_);(case side1 => repeat (first | (with_reducible first | exact HI104.out | apply vq.alloc | apply vq.drewN | apply vq.drew | apply vq.set_1 | apply vq.set_2) | exact HI104.out));(case side2 => repeat (first | (with_reducible first | exact HB.out | apply qj | apply qz | apply qk | refine qx ?_ (vq.ge HI104.out)) | exact HB.out));rintro e w6 ⟨v106,rfl,ho0,hi,hb,hk⟩;refine ⟨_,rfl,?_⟩;have n0_ := qq.mk (Kd.R_lower ho0 (zw (by repeat (first | (with_reducible first | exact HB.out | apply qj | apply qz | apply qk | refine qx ?_ (vq.ge HI104.out)) | exact HB.out))));have n1_ := qq.mk (hb);have n2_ := qq.mk (hi);clear HB;clear HI104;have HO107 := n0_;have HB := n1_;have HI104 := n2_;clear n0_ n1_ n2_;(try clear hb);(try clear hb2);(try clear hk);(try clear hi);(try clear ho0);obtain ⟨Ao7,co7,eo7⟩ := Kd.R_slice HO107.out;subst eo7) | ((with_reducible refine kz (f := 99) rfl ?_);refine goesL_ (some 10) rfl rfl Try.func99 (by kernel_rfl) rfl #[.pointer (some ⟨g104,0,none⟩),.slice Ao7 t105.length co7] rfl (by (try simp only [List.map_toArray,List.map_cons,List.map_nil]);first | done | rfl | (simp only [List.length_drop,List.length_take];rfl)) ?_;(with_reducible refine (qzw.calls k g104 t101 t108 t109 (fun k_ => some k_ = (.slice Ao7 t105.length co7 : Value).ownBlock) (.slice Ao7 t105.length co7) t105 t110 t113 t114 w _ ?side1 ?side2 ?side3 A4.out).mono ?_);(case side1 => repeat (first | (with_reducible first | exact HI104.out | apply vq.alloc | apply vq.drewN | apply vq.drew | apply vq.set_1 | apply vq.set_2) | exact HI104.out));(case side2 => repeat (first | (with_reducible first | exact HB.out | apply qj | apply qz | apply qk | refine qx ?_ (vq.ge HI104.out)) | exact HB.out));(case side3 => exact Kd.R_tight rfl HO107.out);rintro e w8 ⟨v111,rfl,ho0,hi,hb,hkp⟩;refine ⟨_,rfl,?_⟩;have n0_ := qq.mk (hi);have n1_ := qq.mk (Kd.R_mono (ok' := fun k_ => True) ho0 (fun k_ hk_ => trivial));have n2_ := qq.mk (hb);clear HI104;clear HB;clear HO107;have HI104 := n0_;have HO112 := n1_;have HB := n2_;clear n0_ n1_ n2_;(try clear hb);(try clear hkp);(try clear ho0)))
 go_ret
 exact ⟨_,by first | rfl | (simp [*,jx,jw] <;> rfl),by (with_reducible repeat (first | apply Kd.jq | apply Kd.zx | apply Kd.jz));exact HO112.out,by repeat (first | (with_reducible first | exact HB.out | apply qj | apply qz | apply qk | refine qx ?_ (vq.ge HI104.out)) | exact HB.out)⟩
end Go.Proofs.Ytccbjchlcelkgaa.Pr
namespace Go.Proofs.Ytccbjchlcelkgaa.Pr
open Go.RowKit Go.Shelf Go.Proofs.YtccbjchlcelkgaaW.PrintWords Go.Proofs.YtccbjchlcelkgaaW.PrintLast Go.Proofs.YtccbjchlcelkgaaW.PrintMore
set_option linter.unusedVariables false
theorem bld_size : Option.map (fun x => x.size) (Try.prog.info? 92) = some 2 := by kernel_rfl
theorem bld_lies : liesAt Try.prog Try.prog.depth 92 (2 / Try.prog.cellsOf 92) 0 92 1 = true := by kernel_rfl
set_option maxHeartbeats 1000000 in
set_option maxRecDepth 100000 in
theorem copyCheck_used (b : Nat) (w : World) (h0 : w.cell? ⟨b,0,none⟩ = some (.pointer (some ⟨b,0,none⟩))) :
  Calls Try.prog 123 #[.pointer (some ⟨b,0,none⟩)] w fun e w' => e = .returned (.tuple #[]) ∧ w' = w := by
 obtain ⟨j,hj,_⟩ := Option.map_eq_some_iff.1 bld_size
 go_enter Try.func123,Try.ntmps123
 go_wp2
 rw [Lib.run_neq_ptr_same w _ Try.underlying90 hj]
 go_wp2
 go_end0
 exact ⟨rfl,rfl⟩
set_option maxHeartbeats 1000000 in
set_option maxRecDepth 100000 in
theorem copyCheck_fresh (b : Nat) (w : World) (h0 : w.cell? ⟨b,0,none⟩ = some (.pointer none)) (hsh : w.shape? b = some (92,2)) (hfz : w.frozen? ⟨b,0,none⟩ = false) :
  Calls Try.prog 123 #[.pointer (some ⟨b,0,none⟩)] w fun e w' => e = .returned (.tuple #[]) ∧ w' = w.setCell ⟨b,0,none⟩ (.pointer (some ⟨b,0,none⟩)) := by
 obtain ⟨j,hj,hjs⟩ := Option.map_eq_some_iff.1 bld_size
 go_enter Try.func123,Try.ntmps123
 go_wp2
 rw [Lib.run_to_unsafe w ⟨b,0,none⟩ Try.underlying90 Try.underlying161 hj (by rw [hjs];decide) hsh (Nat.zero_lt_succ 1)]
 simp only [Result.andThen]
 rw [Oper.upon_value]
 go_wp2
 rw [run_callFunc_extern Try.func161 (by kernel_rfl) (by kernel_rfl) (by kernel_rfl) (e := Extern.AbiNoEscape.same) (by kernel_rfl)]
 rw [Lib.run_noEscape]
 simp only [Result.andThen]
 rw [Oper.upon_value]
 go_wp2
 rw [Lib.run_from_unsafe w ⟨b,0,none⟩ Try.underlying161 Try.underlying90 hj hsh bld_lies]
 simp only [Result.andThen]
 rw [Oper.upon_value]
 go_wp2
 go_end0
 exact ⟨rfl,rfl⟩
theorem copyCheck_calls (B b : Nat) (bs : List Value) (w : World) (h : Lib.IsBuilder 92 5 B b bs w) :
  Calls Try.prog 123 #[.pointer (some ⟨b,0,none⟩)] w fun e w' => e = .returned (.tuple #[]) ∧ (Lib.BuilderAt 92 5 B b (.pointer (some ⟨b,0,none⟩)) bs w' ∧ Below B w w') := by
 rcases h with h | h
 ·refine (copyCheck_fresh b w h.cell0 h.shape h.frozen0).mono ?_
  rintro e w' ⟨rfl,rfl⟩
  exact ⟨rfl,h.used _,(Below.refl B w).setCell (p := ⟨b,0,none⟩) h.1 _⟩
 ·refine (copyCheck_used b w h.cell0).mono ?_
  rintro e w' ⟨rfl,rfl⟩
  exact ⟨rfl,h,Below.refl B _⟩
set_option maxHeartbeats 2000000 in
set_option maxRecDepth 100000 in
theorem writeByte_calls (B b : Nat) (bs : List Value) (c : Int) (w : World) (h : Lib.IsBuilder 92 5 B b bs w) (hlen : bs.length + 1 ≤ 140737488355328) (hBw : B ≤ w.heap.size) :
  Calls Try.prog 60 #[.pointer (some ⟨b,0,none⟩),.int .u8 c] w fun e w' => e = .returned .nilIface ∧ (Lib.BuilderAt 92 5 B b (.pointer (some ⟨b,0,none⟩)) (bs ++ [.int .u8 c]) w' ∧ Below B w w') := by
 obtain ⟨i0,hi,hz0,hz1,hz2⟩ := info_parts (show Option.map (fun i => (i.zero,i.size,i.bytes)) (Try.prog.info? 5) = some (some (.int .u8 0),1,1) by kernel_rfl)
 go_enter Try.func60,Try.ntmps60
 go_wp2_with (go_at_call 123;refine (copyCheck_calls B b bs _ h).mono ?_)
 rintro e w1 ⟨rfl,h1,hb1⟩
 obtain ⟨hB,v,hbk,hown,hne⟩ := h1
 have c0 : w1.cell? ⟨b,0,none⟩ = some (.pointer (some ⟨b,0,none⟩)) := by rw [Lib.cell_of_heap hbk];rfl
 have c1 : w1.cell? ⟨b,1,none⟩ = some v := by rw [Lib.cell_of_heap hbk];rfl
 go_wp2_with (at_builtin;refine wpList_append_own _ rfl _ _ 22 rfl B 5 i0 (.int .u8 0) 1 1 Try.underlying22 hi hz0 hz1 hz2 rfl (by decide) _ _ _ rfl (hown.alloc _) ⟨w1.heap.size,0,none⟩ 1 1 [.int .u8 c] rfl rfl ?c1 ?c2 ?c3 ?c4 ?c5 ?_)
 case c1 =>
  intro j u hj
  match j,hj with
  | 0,hj => simp at hj;subst hj;simp [Addr.add]
 case c2 => intro u hu;simp at hu;subst hu;rfl
 case c3 => unfold maxLen;omega
 case c4 => omega
 case c5 => have := hb1.size;simp;omega
 intro v' w2 hown' hgrow _
 have hlt : b < w1.heap.size := by
  rcases Nat.lt_or_ge b w1.heap.size with h' | h'
  ·exact h'
  ·simp [Array.getElem?_eq_none h'] at hbk
 have hb2 : w2.heap[b]? = some (.cells #[.pointer (some ⟨b,0,none⟩),v] 92 (0,0)) := by
  rw [hgrow.block b (by simp;omega) (fun e => hne e.symm),Lib.alloc_old w1 _ b hlt]
  exact hbk
 have d0 : w2.cell? ⟨b,0,none⟩ = some (.pointer (some ⟨b,0,none⟩)) := by rw [Lib.cell_of_heap hb2];rfl
 have d1 : w2.cell? ⟨b,1,none⟩ = some v := by rw [Lib.cell_of_heap hb2];rfl
 have f1 : w2.frozen? ⟨b,1,none⟩ = false := Lib.frozen_of_heap hb2 1
 obtain ⟨g,cap,rfl⟩ : ∃ g cap,v' = .slice (some ⟨g,0,none⟩) (bs.length + 1) cap := by
  rcases hown'.2 with ⟨_,h0⟩ | ⟨g,cap,cur,hv,_⟩
  ·omega
  ·exact ⟨g,cap,hv⟩
 go_wp2
 go_ret
 refine ⟨rfl,?_,?_⟩
 ·exact Lib.BuilderAt.put (T := 92) (e := 5) hB hb2 (bs' := bs ++ [.int .u8 c]) (by simpa using hown') (by decide)
 ·exact ((hb1.alloc (by have := hb1.size;omega) _).grown hgrow (by have := hb1.size;simp;omega) (fun k hk => (hown.lt k hk).1)).setCell (p := ⟨b,1,none⟩) hB _
def bldF (x : Nat) : Nat := if x = 169 then 61 else x
def bldT (x : Nat) : Nat := if x = 0 then 0 else if x = 3 then 3 else if x = 9 then 9 else if x = 37 then 22 else if x = 70 then 90 else if x = 72 then 92 else if x = 127 then 136 else if x = 5 then 5 else x
def bldRen : Ren := ⟨bldF,bldT,id⟩
theorem bldLays : Lays.n169 Try.prog bldRen where
 mixed := by kernel_rfl
 f169 := by kernel_rfl
 t0 := Try.underlying0
 a0 := Try.isAgg0
 z0 := Try.sizeOf0
 v0 := Try.zeroValue0
 t3 := Try.underlying3
 a3 := Try.isAgg3
 z3 := Try.sizeOf3
 v3 := Try.zeroValue3
 t9 := Try.underlying9
 a9 := Try.isAgg9
 z9 := Try.sizeOf9
 v9 := Try.zeroValue9
 t37 := Try.underlying22
 a37 := Try.isAgg22
 z37 := Try.sizeOf22
 v37 := Try.zeroValue22
 t70 := Try.underlying90
 a70 := Try.isAgg90
 z70 := Try.sizeOf90
 v70 := Try.zeroValue90
 t72 := Try.underlying92
 a72 := Try.isAgg92
 z72 := Try.sizeOf92
 v72 := Try.zeroValue92
 t127 := Try.underlying136
 a127 := Try.isAgg136
 z127 := Try.sizeOf136
 v127 := Try.zeroValue136
theorem bldExtra : Builder.Extra Try.prog bldRen where
 sizeBuilder := by kernel_rfl
 liesBuilder := by kernel_rfl
 t5 := Try.underlying5
 a5 := Try.isAgg5
 z5 := Try.sizeOf5
 v5 := Try.zeroValue5
 infoByte := by kernel_rfl
 cellsByte := by kernel_rfl
 sizeByte := by kernel_rfl
 neB5 := by decide
theorem string_calls (B b : Nat) (l : List UInt8) (w : World) (h : Lib.IsBuilder 92 5 B b (Lib.byteCells l) w) (hBw : B ≤ w.heap.size) :
  Calls Try.prog 61 #[.pointer (some ⟨b,0,none⟩)] w fun e w' => e = .returned (.string ⟨l.toArray⟩) ∧ Below B w w' :=
 Any.Builder_String_any bldLays bldExtra B b l w h hBw
end Go.Proofs.Ytccbjchlcelkgaa.Pr
namespace Go.Proofs.Ytccbjchlcelkgaa.Pr
open Go.RowKit Go.Shelf Go.Proofs.YtccbjchlcelkgaaW.PrintWords Go.Proofs.YtccbjchlcelkgaaW.PrintLast Go.Proofs.YtccbjchlcelkgaaW.PrintMore
set_option linter.unusedVariables false
set_option linter.unusedSimpArgs false
def grwF (x : Nat) : Nat := if x = 241 then 180 else if x = 277 then 197 else x
def grwT (x : Nat) : Nat := if x = 70 then 90 else if x = 3 then 3 else if x = 0 then 0 else if x = 72 then 92 else if x = 37 then 22 else if x = 5 then 5 else x
def grwG (x : Nat) : Nat :=  x
def grwRen : Go.Shelf.Ren := ⟨grwF,grwT,grwG⟩
theorem grwLays : Lays.n241 Try.prog grwRen where
 mixed := by kernel_rfl
 f241 := Try.func180.trans (congrArg some (by kernel_rfl))
 f277 := Try.func197.trans (congrArg some (by kernel_rfl))
 t0 := Try.underlying0
 a0 := Try.isAgg0
 z0 := Try.sizeOf0
 v0 := Try.zeroValue0
 t3 := Try.underlying3
 a3 := Try.isAgg3
 z3 := Try.sizeOf3
 v3 := Try.zeroValue3
 t37 := Try.underlying22
 a37 := Try.isAgg22
 z37 := Try.sizeOf22
 v37 := Try.zeroValue22
 t70 := Try.underlying90
 a70 := Try.isAgg90
 z70 := Try.sizeOf90
 v70 := Try.zeroValue90
 t72 := Try.underlying92
 a72 := Try.isAgg92
 z72 := Try.sizeOf92
 v72 := Try.zeroValue92
theorem grwExtra : Builder.Extra Try.prog grwRen where
 sizeBuilder := by kernel_rfl
 liesBuilder := by kernel_rfl
 t5 := Try.underlying5
 a5 := Try.isAgg5
 z5 := Try.sizeOf5
 v5 := Try.zeroValue5
 infoByte := by kernel_rfl
 cellsByte := by kernel_rfl
 sizeByte := by kernel_rfl
 neB5 := by decide
theorem bgrow_calls (B b n : Nat) (w : World) (hB : B ≤ b) (hbk : w.heap[b]? = some (.cells #[.pointer (some ⟨b,0,none⟩),.slice none 0 0] 92 (0,0))) (hBw : B ≤ w.heap.size) (hn : n ≤ 281474976710656) :
  Calls Try.prog 180 #[.pointer (some ⟨b,0,none⟩),.int .i64 n] w fun e w' => e = .returned (.tuple #[]) ∧ (Lib.BuilderAt 92 5 B b (.pointer (some ⟨b,0,none⟩)) [] w' ∧ Below B w w') :=
 Any.Builder_grow_fresh grwLays grwExtra B b n w hB hbk hBw hn
set_option maxHeartbeats 2000000 in
set_option maxRecDepth 100000 in
theorem bGrow_calls (B b n : Nat) (w : World) (hB : B ≤ b) (hbk : w.heap[b]? = some (.cells #[.pointer none,.slice none 0 0] 92 (0,0))) (hBw : B ≤ w.heap.size) (h0 : 0 < n) (hn : n ≤ 281474976710656) :
  Calls Try.prog 147 #[.pointer (some ⟨b,0,none⟩),.int .i64 n] w fun e w' => e = .returned (.tuple #[]) ∧ (Lib.BuilderAt 92 5 B b (.pointer (some ⟨b,0,none⟩)) [] w' ∧ Below B w w') := by
 have hcc := copyCheck_fresh b w (by rw [Lib.cell_of_heap hbk];rfl) (by simp [World.shape?,hbk]) (Lib.frozen_of_heap hbk 0)
 have hlt : b < w.heap.size := blk_lt hbk
 have hb2 : (w.setCell ⟨b,0,none⟩ (.pointer (some ⟨b,0,none⟩))).heap[b]? = some (.cells #[.pointer (some ⟨b,0,none⟩),.slice none 0 0] 92 (0,0)) := blk_set hbk 0 _
 have hbel : Below B w (w.setCell ⟨b,0,none⟩ (.pointer (some ⟨b,0,none⟩))) := (Below.refl B w).setCell (p := ⟨b,0,none⟩) hB _
 generalize w.setCell ⟨b,0,none⟩ (.pointer (some ⟨b,0,none⟩)) = w1 at hcc hb2 hbel
 have HG := qq.mk (fun W (hW : W.heap[b]? = some (.cells #[.pointer (some ⟨b,0,none⟩),.slice none 0 0] 92 (0,0))) (hs : B ≤ W.heap.size) => bgrow_calls B b n W hB hW hs hn)
 have HB2 := qq.mk hb2
 have HBEL := qq.mk hbel
 have c1 : w1.cell? ⟨b,1,none⟩ = some (.slice none 0 0) := by rw [Lib.cell_of_heap hb2];rfl
 have q1 : decide ((n : Int) < 0) = false := decide_eq_false (by omega)
 have q2 : decide ((0 : Int) < (n : Int)) = true := decide_eq_true (by omega)
 have q3 : decide (0 < n) = true := decide_eq_true h0
 have q4 : (0 < n) = True := eq_true h0
 have HS : qq (B ≤ w1.heap.size) := ⟨Nat.le_trans hBw hbel.size⟩
 clear hb2 hbel hbk hB hBw hn h0
 go_enter Try.func147,Try.ntmps147
 go_wp2_with (go_at_call 123;refine hcc.mono ?_;rintro e w' ⟨rfl,rfl⟩)
 go_quiet (fail)
 have HB9 := qq.mk (show (World.drewN w' nq).heap[b]? = some (.cells #[.pointer (some ⟨b,0,none⟩),.slice none 0 0] 92 (0,0)) from HB2.out)
 have HS9 := qq.mk (show B ≤ (World.drewN w' nq).heap.size from HS.out)
 have HG9 := qq.mk (HG.out (World.drewN w' nq) HB9.out HS9.out)
 go_wp2_with (go_at_call 180;refine HG9.out.mono ?_;rintro e w2 ⟨rfl,h2,hb⟩)
 go_end0
 exact ⟨rfl,h2,HBEL.out.trans (by exact (qz (Below.refl _ _) _).trans hb)⟩
set_option maxHeartbeats 2000000 in
set_option maxRecDepth 100000 in
theorem writeString_calls (B b : Nat) (bs : List Value) (s : ByteArray) (w : World) (h : Lib.IsBuilder 92 5 B b bs w) (hlen : bs.length + s.size ≤ 140737488355328) (hBw : B ≤ w.heap.size) :
  Calls Try.prog 148 #[.pointer (some ⟨b,0,none⟩),.string s] w fun e w' => e = .returned (.tuple #[.int .i64 s.size,.nilIface]) ∧ (Lib.BuilderAt 92 5 B b (.pointer (some ⟨b,0,none⟩)) (bs ++ Lib.strCells s) w' ∧ Below B w w') := by
 obtain ⟨i0,hi,hz0,hz1,hz2⟩ := info_parts (show Option.map (fun i => (i.zero,i.size,i.bytes)) (Try.prog.info? 5) = some (some (.int .u8 0),1,1) by kernel_rfl)
 go_enter Try.func148,Try.ntmps148
 go_wp2_with (go_at_call 123;refine (copyCheck_calls B b bs _ h).mono ?_)
 rintro e w1 ⟨rfl,h1,hb1⟩
 obtain ⟨hB,v,hbk,hown,hne⟩ := h1
 have c0 : w1.cell? ⟨b,0,none⟩ = some (.pointer (some ⟨b,0,none⟩)) := by rw [Lib.cell_of_heap hbk];rfl
 have c1 : w1.cell? ⟨b,1,none⟩ = some v := by rw [Lib.cell_of_heap hbk];rfl
 go_wp2_with (at_builtin;refine Lib.wpList_append_own_string _ rfl _ _ 22 9 rfl B 5 i0 Try.underlying22 Try.underlying9 hi hz0 hz1 hz2 _ _ _ rfl hown s rfl ?c3 ?c4 ?c5 ?_)
 case c3 => unfold maxLen;omega
 case c4 => omega
 case c5 => have := hb1.size;omega
 intro v' w2 hown' hgrow _
 have hlt : b < w1.heap.size := blk_lt hbk
 have hb2 : w2.heap[b]? = some (.cells #[.pointer (some ⟨b,0,none⟩),v] 92 (0,0)) := by
  rw [hgrow.block b hlt (fun e => hne e.symm)]
  exact hbk
 have d0 : w2.cell? ⟨b,0,none⟩ = some (.pointer (some ⟨b,0,none⟩)) := by rw [Lib.cell_of_heap hb2];rfl
 have d1 : w2.cell? ⟨b,1,none⟩ = some v := by rw [Lib.cell_of_heap hb2];rfl
 have f1 : w2.frozen? ⟨b,1,none⟩ = false := Lib.frozen_of_heap hb2 1
 obtain ⟨ao,n',cap,rfl⟩ : ∃ ao n' cap,v' = .slice ao n' cap := by
  rcases hown'.2 with ⟨hv,_⟩ | ⟨g,cap,cur,hv,_⟩
  ·exact ⟨_,_,_,hv⟩
  ·exact ⟨_,_,_,hv⟩
 go_wp2
 go_ret2
 refine ⟨rfl,?_,?_⟩
 ·exact Lib.BuilderAt.put (T := 92) (e := 5) hB hb2 (bs' := bs ++ Lib.strCells s) (by simpa [Lib.strCells_length] using hown') (by decide)
 ·exact (hb1.grown hgrow (by have := hb1.size;omega) (fun k hk => (hown.lt k hk).1)).setCell (p := ⟨b,1,none⟩) hB _
end Go.Proofs.Ytccbjchlcelkgaa.Pr
namespace Go.Proofs.Ytccbjchlcelkgaa.Pr
open Go.RowKit Go.Proofs.YtccbjchlcelkgaaW.PrintWords Go.Proofs.YtccbjchlcelkgaaW.PrintLast Go.Proofs.YtccbjchlcelkgaaW.PrintMore
set_option linter.unusedVariables false
set_option linter.unusedSimpArgs false
def joinL (sep : List UInt8) : List ByteArray → List UInt8
 | [] => []
 | x :: xs => x.data.toList ++ xs.flatMap (fun y => sep ++ y.data.toList)
def joinUp (sep : ByteArray) (l : List ByteArray) (j : Nat) : List UInt8 := (rdOf ByteArray.empty l 0).data.toList ++ ((l.drop 1).take j).flatMap (fun y => sep.data.toList ++ y.data.toList)
def sumN (l : List ByteArray) : Nat → Nat
 | 0 => 0
 | i + 1 => sumN l i + (l.getD i ⟨#[]⟩).size
def joinOk (l : List ByteArray) (sep : ByteArray) : Prop := l.length ≤ 1000 ∧ 1 ≤ sep.size ∧ sep.size ≤ 1000 ∧ ∀ x ∈ l,x.size ≤ 1000000
instance (l : List ByteArray) (sep : ByteArray) : Decidable (joinOk l sep) := by unfold joinOk;infer_instance
def qkj.f (l : List ByteArray) (sep : ByteArray) : Option ByteArray := if joinOk l sep then some ⟨(joinL sep.data.toList l).toArray⟩ else none
theorem sumN_le {l : List ByteArray} (h : ∀ x ∈ l,x.size ≤ 1000000) : ∀ i,sumN l i ≤ i * 1000000
 | 0 => by simp [sumN]
 | i + 1 => by
  have := sumN_le h i
  have h2 : (l.getD i ⟨#[]⟩).size ≤ 1000000 := by
   rw [List.getD_eq_getElem?_getD]
   by_cases hi : i < l.length
   ·rw [List.getElem?_eq_getElem hi];exact h _ (List.getElem_mem hi)
   ·rw [List.getElem?_eq_none (by omega)];decide
  simp only [sumN]
  omega
theorem quo_J {n s : Nat} (h2 : 2 ≤ n) (hn : n ≤ 1000) (hs : s ≤ 1000) : Int.tdiv 9223372036854775807 ((n : Int) - 1) > (s : Int) := by
 rw [Int.tdiv_eq_ediv_of_nonneg (by omega)]
 have h : (s + 1 : Int) ≤ 9223372036854775807 / ((n : Int) - 1) := by
  rw [Int.le_ediv_iff_mul_le (by omega)]
  have h1 : ((s : Int) + 1) * ((n : Int) - 1) ≤ 1001 * 1000 := Int.mul_le_mul (by omega) (by omega) (by omega) (by omega)
  omega
 omega
theorem quo_J2 {n s : Nat} (h2 : 2 ≤ n) (hn : n ≤ 1000) (hs : s ≤ 1000) : decide ((9223372036854775807 : Int) / ((n : Int) - 1) ≤ (s : Int)) = false := by
 have := quo_J h2 hn hs
 rw [Int.tdiv_eq_ediv_of_nonneg (by omega)] at this
 exact decide_eq_false (by omega)
theorem mul_J {n s : Nat} (h2 : 2 ≤ n) (hn : n ≤ 1000) (hs : s ≤ 1000) : wrap64 (wrap64 ((s : Int) * ((n : Int) - 1))) = ((s * (n - 1) : Nat) : Int) := by
 have h1 : s * (n - 1) ≤ 1000 * 1000 := Nat.mul_le_mul hs (by omega)
 have h3 : ((s * (n - 1) : Nat) : Int) = (s : Int) * ((n : Int) - 1) := by rw [Int.natCast_mul];congr 1;omega
 rw [← h3]
 unfold wrap64
 omega
theorem add_J {S x : Nat} (hS : S ≤ 2000000000) (hx : x ≤ 1000000) : wrap64 ((S : Int) + (x : Int)) = ((S + x : Nat) : Int) ∧ decide (wrap64 (9223372036854775807 - (S : Int)) < (x : Int)) = false ∧ wrap64 (9223372036854775807 - (S : Int)) = 9223372036854775807 - (S : Int) ∧ decide (9223372036854775807 - (S : Int) < (x : Int)) = false := by
 have e : wrap64 (9223372036854775807 - (S : Int)) = 9223372036854775807 - (S : Int) := by unfold wrap64;omega
 refine ⟨by unfold wrap64;omega,?_,e,decide_eq_false (by omega)⟩
 rw [e]
 exact decide_eq_false (by omega)
theorem step_J {i n : Nat} (h : i < n) (hn : n ≤ 1000) : wrap64 ((i : Int) + 1) = ((i + 1 : Nat) : Int) := by
 unfold wrap64
 omega
theorem byteCells_append (l m : List UInt8) : Lib.byteCells (l ++ m) = Lib.byteCells l ++ Lib.byteCells m := by simp [Lib.byteCells]
theorem strCells_length (s : ByteArray) : (Lib.strCells s).length = s.size := by simp [Lib.strCells]
theorem byteCells_length (l : List UInt8) : (Lib.byteCells l).length = l.length := by simp [Lib.byteCells]
theorem joinUp_succ (sep : ByteArray) (l : List ByteArray) {j : Nat} (h : j < l.length - 1) : joinUp sep l (j + 1) = joinUp sep l j ++ sep.data.toList ++ (rdOf ByteArray.empty l ((j + 1 : Nat) : Int)).data.toList := by
 have h0 : j + 1 < l.length := by omega
 have e : rdOf ByteArray.empty l ((j + 1 : Nat) : Int) = l[j + 1] := by
  show l.getD ((j + 1 : Nat) : Int).toNat _ = _
  rw [Int.toNat_natCast,List.getD_eq_getElem?_getD,List.getElem?_eq_getElem h0,Option.getD_some]
 have h1 : j < (l.drop 1).length := by rw [List.length_drop];omega
 rw [e]
 unfold joinUp
 rw [List.take_add_one,List.getElem?_eq_getElem h1,List.flatMap_append]
 simp only [Option.toList_some,List.flatMap_cons,List.flatMap_nil,List.append_nil,List.append_assoc,List.getElem_drop,Nat.add_comm 1 j]
theorem joinUp_all (sep : ByteArray) (l : List ByteArray) (h : 0 < l.length) : joinUp sep l (l.length - 1) = joinL sep.data.toList l := by
 cases l with
 | nil => simp at h
 | cons x xs =>
  unfold joinUp joinL
  rw [List.length_cons,Nat.add_sub_cancel,List.drop_succ_cons,List.drop_zero,List.take_of_length_le (Nat.le_refl _)]
  rfl
theorem joinUp_length (sep : ByteArray) (l : List ByteArray) {j : Nat} (hs : sep.size ≤ 1000) (hz : ∀ x ∈ l,x.size ≤ 1000000) : (joinUp sep l j).length ≤ 1000000 + j * 1001000 := by
 have sz : ∀ b : ByteArray,b.data.toList.length = b.size := fun b => Array.length_toList
 have h0 : (rdOf ByteArray.empty l 0).data.toList.length ≤ 1000000 := by
  rw [sz]
  rcases Nat.eq_zero_or_pos l.length with h | h
  ·rw [List.length_eq_zero_iff.mp h];decide
  ·have e : rdOf ByteArray.empty l 0 = l[0] := by
    show l.getD (0 : Int).toNat _ = _
    rw [show (0 : Int).toNat = 0 from rfl,List.getD_eq_getElem?_getD,List.getElem?_eq_getElem h,Option.getD_some]
   rw [e];exact hz _ (List.getElem_mem h)
 have h1 : ∀ (m : List ByteArray),(∀ x ∈ m,x.size ≤ 1000000) → (m.flatMap (fun y => sep.data.toList ++ y.data.toList)).length ≤ m.length * 1001000 := by
  intro m
  induction m with
  | nil => intro _;simp
  | cons x m ih =>
   intro h
   have := ih (fun y hy => h y (List.mem_cons_of_mem _ hy))
   have hx := h x List.mem_cons_self
   rw [List.flatMap_cons,List.length_append,List.length_append,sz,sz,List.length_cons]
   omega
 have h2 := h1 ((l.drop 1).take j) (fun x hx => hz x (List.mem_of_mem_drop (List.mem_of_mem_take hx)))
 have h3 : ((l.drop 1).take j).length ≤ j := by rw [List.length_take];omega
 have h4 : ((l.drop 1).take j).length * 1001000 ≤ j * 1001000 := Nat.mul_le_mul_right _ h3
 unfold joinUp
 rw [List.length_append]
 omega
set_option maxHeartbeats 4000000 in
set_option maxRecDepth 100000 in
theorem joinMany_calls (A0 : Option Addr) (c0 : Nat) (l0 : List ByteArray) (sep : ByteArray) (w : World) (hr0 : Kd.C Kd.string w A0 l0.length l0) (hcap : l0.length ≤ c0) (h2 : 2 ≤ l0.length) (hn : l0.length ≤ 1000) (hs0 : 1 ≤ sep.size) (hs : sep.size ≤ 1000) (hz : ∀ x ∈ l0,x.size ≤ 1000000) :
  Calls Try.prog 103 #[.slice A0 l0.length c0,.string sep] w fun e w' => e = .returned (.string ⟨(joinL sep.data.toList l0).toArray⟩) ∧ Below w.heap.size w w' := by
 have HR0 := qq.mk hr0
 have HZ := qq.mk hz
 have q0 : decide ((l0.length : Int) = 0) = false := decide_eq_false (by omega)
 have q1 : decide ((l0.length : Int) = 1) = false := decide_eq_false (by omega)
 have q2 : decide (0 < (sep.size : Int)) = true := decide_eq_true (by omega)
 have q3 := quo_J h2 hn hs
 have HN := qq.mk (And.intro h2 hn)
 have HCAP := qq.mk hcap
 have hcap1 : ¬ c0 = 1 := by omega
 have hcap2 : 1 ≤ c0 := by omega
 have q4 := quo_J2 h2 hn hs
 have q5 := mul_J h2 hn hs
 obtain ⟨ad,rfl,hc0⟩ := Kd.at_string hr0 0 (by omega) (by omega)
 obtain ⟨S,eS⟩ : ∃ S,S = sep.size * (l0.length - 1) := ⟨_,rfl⟩
 have hSb : S ≤ 1000000 := by rw [eS];exact Nat.mul_le_mul hs (show l0.length - 1 ≤ 1000 by omega)
 rw [← eS] at q5
 have HS := qq.mk (And.intro eS hSb)
 clear hr0 hz hc0 eS hSb q3
 go_enter Try.func103,Try.ntmps103
 go_wp2
 simp only [q5]
 clear q0 q1 q2 q4 q5
 go_loopw [5,41] (fun v5 v41 W => ∃ i : Nat,v5 = .int .i64 ((S + sumN l0 i : Nat) : Int) ∧ v41 = .int .i64 (i : Int) ∧ qq (i ≤ l0.length) ∧ qq (W = w)) (fun _ v41 _ => l0.length - (intOf v41).toNat)
 case atStart => exact ⟨0,rfl,rfl,⟨Nat.zero_le _⟩,⟨rfl⟩⟩
 case round =>
  obtain ⟨i,rfl,rfl,HI,HW⟩ := hrel
  obtain rfl := HW.out
  clear HW
  by_cases hlt : i < l0.length
  ·have hl1 : decide ((i : Int) < (l0.length : Int)) = true := decide_eq_true (by omega)
   have hl2 : decide (i < l0.length) = true := decide_eq_true hlt
   obtain ⟨ad2,e2,hcell⟩ := Kd.at_string HR0.out (i : Int) (by omega) (by omega)
   cases e2
   rw [Int.toNat_natCast] at hcell
   have hx : (rdOf ByteArray.empty l0 (i : Int)).size ≤ 1000000 := by
    have e : rdOf ByteArray.empty l0 (i : Int) = l0[i] := by simp [rdOf,List.getD_eq_getElem?_getD,List.getElem?_eq_getElem hlt]
    rw [e];exact HZ.out _ (List.getElem_mem hlt)
   have hsum : sumN l0 (i + 1) = sumN l0 i + (rdOf ByteArray.empty l0 (i : Int)).size := by
    simp only [sumN,rdOf,Int.toNat_natCast]
    rfl
   have hle := sumN_le HZ.out i
   generalize rdOf ByteArray.empty l0 (i : Int) = x at hcell hx hsum
   obtain ⟨a1,a2,a3,a4⟩ := add_J (S := S + sumN l0 i) (x := x.size) (by have := HS.out.2;have := HN.out.2;omega) hx
   obtain ⟨T,eT⟩ : ∃ T,T = S + sumN l0 i := ⟨_,rfl⟩
   rw [← eT] at a1 a2 a3 a4 ⊢
   have e3 := step_J hlt HN.out.2
   have ET := qq.mk (And.intro eT hsum)
   have HLT := qq.mk hlt
   clear hx hsum hle eT
   go_wp2
   simp only [a1,e3]
   go_roundw
   case rel => exact ⟨i + 1,by rw [ET.out.2,ET.out.1,Nat.add_assoc],rfl,⟨HLT.out⟩,⟨trivial⟩⟩
   case measure =>
    show l0.length - (((i + 1 : Nat) : Int)).toNat < l0.length - ((i : Int)).toNat
    rw [Int.toNat_natCast,Int.toNat_natCast]
    exact Nat.sub_lt_sub_left HLT.out (Nat.lt_succ_self i)
  ·have hie : i = l0.length := by have := HI.out;omega
   subst hie
   have hl1 : decide ((l0.length : Int) < (l0.length : Int)) = false := decide_eq_false (by omega)
   have hl2 : decide (l0.length < l0.length) = false := decide_eq_false (by omega)
   clear hlt HI
   have HSP : qq (0 < S + sumN l0 l0.length ∧ S + sumN l0 l0.length ≤ 281474976710656) := ⟨by
    have h1 := sumN_le HZ.out l0.length
    have h3 := HS.out
    have h4 := HN.out
    have : 1 ≤ sep.size * (l0.length - 1) := Nat.mul_pos (by omega) (by omega)
    omega⟩
   obtain ⟨M,eM⟩ : ∃ M,M = S + sumN l0 l0.length := ⟨_,rfl⟩
   rw [← eM] at HSP ⊢
   have HM := qq.mk eM
   clear eM
   go_wp2_with (go_at_call 147;refine (bGrow_calls wr.heap.size wr.heap.size M (wr.alloc (Obj.cells #[Value.pointer none,Value.slice none 0 0] 92)) (Nat.le_refl _) (blk_new wr _) (qj (Below.refl wr.heap.size wr) _).size HSP.out.1 HSP.out.2).mono ?_)
   rintro e w1 ⟨rfl,hI0,hB0⟩
   have HW1 : qq (Below wr.heap.size wr w1) := ⟨(qj (Below.refl wr.heap.size wr) _).trans hB0⟩
   have HI1 : qq (Lib.IsBuilder 92 5 wr.heap.size wr.heap.size (Lib.byteCells []) w1) := ⟨Or.inr hI0⟩
   clear hI0 hB0
   obtain ⟨B,eB⟩ : ∃ B,B = wr.heap.size := ⟨_,rfl⟩
   rw [← eB] at HW1 HI1 ⊢
   have HBB := qq.mk eB
   clear eB
   have HC1 := qq.mk (Kd.C_below HR0.out (by rw [← HBB.out];exact HW1.out))
   obtain ⟨x0,ex0⟩ : ∃ x,x = rdOf ByteArray.empty l0 0 := ⟨_,rfl⟩
   have hc0 : w1.cell? ad = some (.string x0) := by
    obtain ⟨ad2,e2,hcell⟩ := Kd.at_string HC1.out 0 (by omega) (by have := HN.out;omega)
    cases e2
    rw [ex0]
    simpa [Addr.add] using hcell
   have HX0 : qq (x0 = rdOf ByteArray.empty l0 0 ∧ x0.size ≤ 1000000) := ⟨ex0,by
    have h0 : 0 < l0.length := by have := HN.out;omega
    have e : rdOf ByteArray.empty l0 0 = l0[0] := by simp [rdOf,List.getD_eq_getElem?_getD,List.getElem?_eq_getElem h0]
    rw [ex0,e];exact HZ.out _ (List.getElem_mem h0)⟩
   clear ex0
   go_wp2_with (go_at_call 148;refine (writeString_calls B B (Lib.byteCells []) x0 w1 HI1.out (by have := HX0.out.2;simp [Lib.byteCells];omega) (by have := HW1.out.size;have := HBB.out;omega)).mono ?_)
   rintro e w2 ⟨rfl,hI2,hB2⟩
   have HW2 : qq (Below wr.heap.size wr w2) := ⟨by rw [← HBB.out];exact HW1.out.trans hB2⟩
   have HI2 : qq (Lib.IsBuilder 92 5 B B (Lib.byteCells (joinUp sep l0 0)) w2) := ⟨by
    have e : Lib.byteCells (joinUp sep l0 0) = Lib.byteCells [] ++ Lib.strCells x0 := by
     rw [HX0.out.1];simp [joinUp,Lib.byteCells,Lib.strCells]
    rw [e];exact Or.inr hI2⟩
   clear hI2 hB2
   obtain ⟨wr_1,rfl⟩ : ∃ W,W = wr := ⟨_,rfl⟩
   go_wp2
   have HCELL : qq (∀ W,Below wr_1.heap.size wr_1 W → ∀ j,j + 1 < l0.length → W.cell? { block := ad.block,off := ad.off + 1 + j } = some (.string (rdOf ByteArray.empty l0 ((j + 1 : Nat) : Int)))) := ⟨by
    intro W hW j hj
    obtain ⟨ad2,e2,hcell⟩ := Kd.at_string (Kd.C_below HR0.out hW) ((j + 1 : Nat) : Int) (by omega) (by omega)
    cases e2
    rw [Int.toNat_natCast] at hcell
    have ea : ad.add (j + 1) = { block := ad.block,off := ad.off + 1 + j } := by
     unfold Addr.add
     rw [if_neg (by omega),show ad.off + (j + 1) = ad.off + 1 + j by omega]
    rw [ea] at hcell
    exact hcell⟩
   go_loopw [65] (fun v65 W => ∃ j : Nat,v65 = .int .i64 (j : Int) ∧ qq (j ≤ l0.length - 1) ∧ qq (Lib.IsBuilder 92 5 B B (Lib.byteCells (joinUp sep l0 j)) W ∧ Below wr_1.heap.size wr_1 W)) (fun v65 _ => l0.length - 1 - (intOf v65).toNat)
   case atStart => exact ⟨0,rfl,⟨Nat.zero_le _⟩,⟨HI2.out,HW2.out⟩⟩
   case round =>
    obtain ⟨j,rfl,HJ,HV⟩ := hrel
    clear HW2 HI2 HI1 HW1 hc0
    by_cases hlt : j < l0.length - 1
    ·have HLT := qq.mk hlt
     have hl1 : decide ((j : Int) < (l0.length : Int) - 1) = true := decide_eq_true (by omega)
     have hl2 : decide (j < l0.length - 1) = true := decide_eq_true hlt
     have hcell := HCELL.out wr HV.out.2 j (by omega)
     have hY : (rdOf ByteArray.empty l0 ((j + 1 : Nat) : Int)).size ≤ 1000000 := by
      have h0 : j + 1 < l0.length := by omega
      have e : rdOf ByteArray.empty l0 ((j + 1 : Nat) : Int) = l0[j + 1] := by
       show l0.getD ((j + 1 : Nat) : Int).toNat _ = _
       rw [Int.toNat_natCast,List.getD_eq_getElem?_getD,List.getElem?_eq_getElem h0,Option.getD_some]
      rw [e];exact HZ.out _ (List.getElem_mem h0)
     have hJU : joinUp sep l0 (j + 1) = joinUp sep l0 j ++ sep.data.toList ++ (rdOf ByteArray.empty l0 ((j + 1 : Nat) : Int)).data.toList := joinUp_succ sep l0 hlt
     have hJL := joinUp_length sep l0 (j := j) hs HZ.out
     obtain ⟨y,ey⟩ : ∃ y,y = rdOf ByteArray.empty l0 ((j + 1 : Nat) : Int) := ⟨_,rfl⟩
     rw [← ey] at hcell hY hJU
     have HY := qq.mk (And.intro hY (And.intro hJU hJL))
     have e3 : wrap64 ((j : Int) + 1) = ((j + 1 : Nat) : Int) := by unfold wrap64;omega
     have HEY := qq.mk ey
     clear hY ey hJU hJL
     go_wp2_with (go_at_call 148;refine (writeString_calls B B (Lib.byteCells (joinUp sep l0 j)) sep wr HV.out.1 (by have := HY.out.2.2;simp only [byteCells_length];omega) (by have := HV.out.2.size;have := HBB.out;omega)).mono ?_)
     rintro e w3 ⟨rfl,hI3,hB3⟩
     have HW3 : qq (Below wr_1.heap.size wr_1 w3) := ⟨HV.out.2.trans (by rw [← HBB.out];exact hB3)⟩
     have hcell3 : w3.cell? { block := ad.block,off := ad.off + 1 + j } = some (.string y) := by rw [HEY.out];exact HCELL.out w3 HW3.out j (by omega)
     have HI3 : qq (Lib.IsBuilder 92 5 B B (Lib.byteCells (joinUp sep l0 j) ++ Lib.strCells sep) w3) := ⟨Or.inr hI3⟩
     clear hI3 hB3
     go_wp2_with (go_at_call 148;refine (writeString_calls B B (Lib.byteCells (joinUp sep l0 j) ++ Lib.strCells sep) y w3 HI3.out (by have := HY.out.1;have := HY.out.2.2;simp only [List.length_append,byteCells_length,strCells_length];omega) (by have := HW3.out.size;have := HBB.out;omega)).mono ?_)
     rintro e w4 ⟨rfl,hI4,hB4⟩
     have HW4 : qq (Below wr_1.heap.size wr_1 w4) := ⟨HW3.out.trans (by rw [← HBB.out];exact hB4)⟩
     have HI4 : qq (Lib.IsBuilder 92 5 B B (Lib.byteCells (joinUp sep l0 (j + 1))) w4) := ⟨by
      rw [HY.out.2.1,byteCells_append,byteCells_append]
      exact Or.inr hI4⟩
     clear hI4 hB4
     go_wp2
     try simp only [e3]
     go_roundw
     case rel => exact ⟨j + 1,rfl,⟨HLT.out⟩,⟨HI4.out,HW4.out⟩⟩
     case measure =>
      show l0.length - 1 - (((j + 1 : Nat) : Int)).toNat < l0.length - 1 - ((j : Int)).toNat
      rw [Int.toNat_natCast,Int.toNat_natCast]
      exact Nat.sub_lt_sub_left HLT.out (Nat.lt_succ_self j)
    ·have hje : j = l0.length - 1 := by have := HJ.out;omega
     subst hje
     have hl1 : decide (((l0.length - 1 : Nat) : Int) < (l0.length : Int) - 1) = false := decide_eq_false (by omega)
     have hl2 : decide (l0.length - 1 < l0.length - 1) = false := decide_eq_false (by omega)
     clear hlt HJ
     go_wp2_with (go_at_call 61;refine (string_calls B B (joinUp sep l0 (l0.length - 1)) _ HV.out.1 (by have := HV.out.2.size;have := HBB.out;omega)).mono ?_)
     rintro e w3 ⟨rfl,hB3⟩
     go_wp2
     go_ret
     exact ⟨by rw [joinUp_all sep l0 (by omega)];rfl,HV.out.2.trans (by rw [← HBB.out];exact hB3)⟩
set_option maxHeartbeats 4000000 in
set_option maxRecDepth 100000 in
theorem joinNone_calls (A0 : Option Addr) (c0 : Nat) (sep : ByteArray) (w : World) :
  Calls Try.prog 103 #[.slice A0 0 c0,.string sep] w fun e w' => e = .returned (.string ⟨#[]⟩) ∧ Below w.heap.size w w' := by
 go_enter Try.func103,Try.ntmps103
 go_wp2
 go_ret
 exact ⟨rfl,Below.refl _ _⟩
set_option maxHeartbeats 4000000 in
set_option maxRecDepth 100000 in
theorem joinOne_calls (A0 : Option Addr) (c0 : Nat) (x : ByteArray) (sep : ByteArray) (w : World) (hr0 : Kd.C Kd.string w A0 1 [x]) :
  Calls Try.prog 103 #[.slice A0 1 c0,.string sep] w fun e w' => e = .returned (.string x) ∧ Below w.heap.size w w' := by
 obtain ⟨ad,rfl,hc0⟩ := Kd.at_string hr0 0 (by omega) (by decide)
 have hc0 : w.cell? ad = some (.string x) := by simpa [Addr.add,rdOf] using hc0
 go_enter Try.func103,Try.ntmps103
 go_wp2
 go_ret
 exact ⟨rfl,Below.refl _ _⟩
theorem qkj.calls (A0 : Option Addr) (c0 : Nat) (l0 : List ByteArray) (a1 : ByteArray) (r : ByteArray) (w : World) (hr0 : Kd.C Kd.string w A0 l0.length l0) (hc0 : l0.length ≤ c0) (h : qkj.f l0 a1 = some r) :
  Calls Try.prog 103 #[.slice A0 l0.length c0,.string a1] w fun e w' => e = .returned (.string r) ∧ Below w.heap.size w w' := by
 unfold qkj.f at h
 split at h
 ·rename_i hok
  obtain ⟨hn,hs0,hs,hz⟩ := hok
  cases h
  match l0,hr0,hc0,hn,hz with
  | [],_,_,_,_ => exact joinNone_calls A0 c0 a1 w
  | [x],hr0,_,_,_ =>
   have e : (⟨(joinL a1.data.toList [x]).toArray⟩ : ByteArray) = x := by simp [joinL]
   rw [e]
   exact joinOne_calls A0 c0 x a1 w hr0
  | x :: y :: l,hr0,hc0,hn,hz => exact joinMany_calls A0 c0 _ a1 w hr0 hc0 (by simp) hn hs0 hs hz
 ·cases h
end Go.Proofs.Ytccbjchlcelkgaa.Pr
namespace Go.Proofs.Ytccbjchlcelkgaa.Pr
open Go.RowKit Go.Proofs.YtccbjchlcelkgaaW.PrintWords Go.Proofs.YtccbjchlcelkgaaW.PrintLast Go.Proofs.YtccbjchlcelkgaaW.PrintMore
set_option linter.unusedVariables false
def qkz.f (a0 : ByteArray) (a1 : Int) : Option Int := some (Lib.indexByte a0.data.toList a1.toNat.toUInt8)
set_option maxHeartbeats 1000000 in
set_option maxRecDepth 100000 in
theorem lite_IndexByte (s : ByteArray) (c : Int) (w : World) :
  Calls Try.prog 125 #[.string s,.int .u8 c] w fun e w' => e = .returned (.int .i64 (Lib.indexByte s.data.toList c.toNat.toUInt8)) ∧ w' = w := by
 go_enter Try.func125,Try.ntmps125
 go_wp2
 rw [run_callFunc_extern Try.func162 (by kernel_rfl) (by kernel_rfl) (by kernel_rfl) (e := Extern.BytealgIndexByte.indexByte) (by kernel_rfl),Lib.run_indexByteString]
 simp only [Result.andThen]
 rw [Oper.upon_value]
 go_wp2
 go_ret
 exact ⟨rfl,rfl⟩
set_option maxHeartbeats 1000000 in
set_option maxRecDepth 100000 in
theorem qkz.calls (a0 : ByteArray) (a1 : Int) (r : Int) (w : World) (h : qkz.f a0 a1 = some r) :
  Calls Try.prog 63 #[.string a0,.int .u8 a1] w fun e w' => e = .returned (.int .i64 r) ∧ Drawn0 w w' := by
 obtain rfl := Option.some.inj h
 go_enter Try.func63,Try.ntmps63
 go_wp2_with (go_at_call 125;refine (lite_IndexByte a0 a1 _).mono ?_;rintro e w' ⟨rfl,rfl⟩)
 go_ret
 exact ⟨rfl,Drawn0.refl _⟩
end Go.Proofs.Ytccbjchlcelkgaa.Pr
namespace Go.Proofs.Ytccbjchlcelkgaa.Pr
open Go.RowKit Go.Proofs.YtccbjchlcelkgaaW.PrintWords Go.Proofs.YtccbjchlcelkgaaW.PrintLast Go.Proofs.YtccbjchlcelkgaaW.PrintMore
set_option linter.unusedVariables false
set_option linter.unusedSimpArgs false
def escU (set : List UInt8) (b : UInt8) : List UInt8 := if 0 ≤ Lib.indexByte set b then [92,b] else [b]
def escL (set l : List UInt8) : List UInt8 := l.flatMap (escU set)
theorem escL_snoc (set l : List UInt8) (b : UInt8) : escL set (l ++ [b]) = escL set l ++ escU set b := by simp [escL]
theorem escL_len (set : List UInt8) : ∀ l : List UInt8,(escL set l).length ≤ 2 * l.length
 | [] => by simp [escL]
 | b :: l => by
  have := escL_len set l
  have h1 : (escU set b).length ≤ 2 := by unfold escU;split <;> simp
  have h2 : escL set (b :: l) = escU set b ++ escL set l := rfl
  rw [h2,List.length_append,List.length_cons]
  omega
theorem wrap_upY {i n : Nat} (h : i < n) (hn : n ≤ 1000000) : wrap64 ((i : Int) + 1) = ((i + 1 : Nat) : Int) := by
 unfold wrap64
 omega
theorem esc_room {set l : List UInt8} {i n : Nat} (h : i < n) (hn : n ≤ 1000000) : (Lib.byteCells (escL set (l.take i))).length + 2 ≤ 140737488355328 := by
 rw [Lib.byteCells_length]
 have h1 := escL_len set (l.take i)
 have h2 : (l.take i).length ≤ i := by rw [List.length_take];omega
 omega
theorem meas_Y {i n : Nat} (h : i < n) : n - (i + 1) < n - i := by omega
def xv.f (s set : ByteArray) : Option ByteArray := if s.size ≤ 1000000 then some ⟨(escL set.data.toList s.data.toList).toArray⟩ else none
set_option maxHeartbeats 4000000 in
set_option maxRecDepth 100000 in
theorem xv.calls (a0 a1 : ByteArray) (r : ByteArray) (w : World) (h : xv.f a0 a1 = some r) :
  Calls Try.prog 102 #[.string a0,.string a1] w fun e w' => e = .returned (.string r) ∧ Below w.heap.size w w' := by
 unfold xv.f at h
 by_cases hs : a0.size ≤ 1000000
 case neg => rw [if_neg hs] at h;cases h
 rw [if_pos hs] at h
 obtain rfl := Option.some.inj h
 clear h
 have HL := qq.mk hs
 clear hs
 go_enter Try.func102,Try.ntmps102
 go_wp2
 have HBW0 := qq.mk (show Below w.heap.size w (w.alloc (Obj.cells #[Value.pointer none,Value.slice none 0 0] 92)) from qj (Below.refl _ _) _)
 have HI0 := qq.mk (Lib.fresh_isBuilder 92 5 w)
 generalize w.alloc (Obj.cells #[Value.pointer none,Value.slice none 0 0] 92) = w1 at HBW0 HI0 ⊢
 obtain ⟨B,eB⟩ : ∃ B,B = w.heap.size := ⟨_,rfl⟩
 rw [← eB] at HI0
 have hbb : w.heap.size = B := eB.symm
 simp only [hbb]
 clear eB
 have HBB := qq.mk hbb
 clear hbb
 go_loopw [9] (fun v9 W => ∃ i : Nat,v9 = .int .i64 i ∧ qq (i ≤ a0.size) ∧ qq (Lib.IsBuilder 92 5 B B (Lib.byteCells (escL a1.data.toList (a0.data.toList.take i))) W) ∧ qq (Below w.heap.size w W)) (fun v9 _ => a0.size - (intOf v9).toNat)
 case atStart => exact ⟨0,rfl,⟨Nat.zero_le _⟩,HI0,HBW0⟩
 case round =>
  clear HI0 HBW0
  obtain ⟨i,rfl,HV,HI,HW⟩ := hrel
  by_cases hlt : i < a0.size
  ·have hlt2 : decide ((i : Int) < (a0.size : Int)) = true := decide_eq_true (by omega)
   have hll : i < a0.data.toList.length := by simpa using hlt
   obtain ⟨c,ec⟩ : ∃ c : UInt8,c = a0.data.toList[i] := ⟨_,rfl⟩
   have hci : ∀ h : i < a0.size,a0[i]'h = c := fun h => by rw [ec];simp [ByteArray.getElem_eq_getElem_data]
   have HLT := qq.mk hlt
   have E3 : qq (wrap64 ((i : Int) + 1) = ((i + 1 : Nat) : Int)) := ⟨wrap_upY HLT.out HL.out⟩
   have HT : qq (a0.data.toList.take (i + 1) = a0.data.toList.take i ++ [c]) := ⟨by rw [ec];exact List.take_succ_eq_append_getElem hll⟩
   have HCI := qq.mk hci
   clear ec hll hci
   obtain ⟨q,eq⟩ : ∃ q,q = Lib.indexByte a1.data.toList c := ⟨_,rfl⟩
   have HX : ∀ W : World,Calls Try.prog 63 #[.string a1,.int .u8 (c.toNat : Int)] W fun e w' => e = .returned (.int .i64 q) ∧ Drawn0 W w' := fun W => qkz.calls a1 (c.toNat : Int) q W (by unfold qkz.f;rw [show ((c.toNat : Int)).toNat.toUInt8 = c from by simp,eq])
   have HX := qq.mk HX
   have EQ := qq.mk eq
   clear eq
   have hlt1 : (i : Int) < (a0.size : Int) := by omega
   clear hlt
   have HBS : qq (B ≤ wr.heap.size) := ⟨by have := HW.out.size;rw [← HBB.out];exact this⟩
   have HLEN : qq ((Lib.byteCells (escL a1.data.toList (a0.data.toList.take i))).length + 2 ≤ 140737488355328) := ⟨esc_room HLT.out HL.out⟩
   by_cases hq : 0 ≤ q
   ·have hq1 : decide (0 ≤ q) = true := decide_eq_true hq
    have HE : qq (escU a1.data.toList c = [92,c]) := ⟨by unfold escU;rw [← EQ.out,if_pos hq]⟩
    go_wp2_with (first | (go_at_call 63;rw [HCI.out];refine (HX.out _).mono ?_;rintro e w' ⟨rfl,⟨⟨nd,rfl⟩⟩⟩) | (go_at_call 60;refine (writeByte_calls B B (Lib.byteCells (escL a1.data.toList (a0.data.toList.take i))) 92 (wr.drewN nd) HI.out (Nat.le_of_succ_le HLEN.out) HBS.out).mono ?_))
    rintro e w2 ⟨rfl,hI2,hB2⟩
    have HI2 : qq (Lib.IsBuilder 92 5 B B (Lib.byteCells (escL a1.data.toList (a0.data.toList.take i)) ++ [Value.int .u8 92]) w2) := ⟨Or.inr hI2⟩
    have HW2 : qq (Below w.heap.size w w2) := ⟨HW.out.trans (by rw [HBB.out];exact (qz (Below.refl _ _) nd).trans hB2)⟩
    have HBS2 : qq (B ≤ w2.heap.size) := ⟨by have := HW2.out.size;rw [← HBB.out];exact this⟩
    have HLEN2 : qq ((Lib.byteCells (escL a1.data.toList (a0.data.toList.take i)) ++ [Value.int .u8 92]).length + 1 ≤ 140737488355328) := ⟨by rw [List.length_append];exact HLEN.out⟩
    clear hI2 hB2
    go_wp2_with (go_at_call 60;rw [HCI.out];refine (writeByte_calls B B _ (c.toNat : Int) _ HI2.out HLEN2.out HBS2.out).mono ?_)
    rintro e w3 ⟨rfl,hI3,hB3⟩
    have HI3 : qq (Lib.IsBuilder 92 5 B B (Lib.byteCells (escL a1.data.toList (a0.data.toList.take (i + 1)))) w3) := ⟨by
     have e : Lib.byteCells (escL a1.data.toList (a0.data.toList.take (i + 1))) = Lib.byteCells (escL a1.data.toList (a0.data.toList.take i)) ++ [Value.int .u8 92] ++ [Value.int .u8 (c.toNat : Int)] := by
      rw [HT.out,escL_snoc,HE.out];simp [Lib.byteCells]
     rw [e]
     exact Or.inr hI3⟩
    have HW3 : qq (Below w.heap.size w w3) := ⟨HW2.out.trans (by rw [HBB.out];exact hB3)⟩
    clear hI3 hB3
    go_wp2
    simp only [E3.out]
    go_roundw
    case rel => exact ⟨i + 1,rfl,⟨HLT.out⟩,HI3,HW3⟩
    case measure =>
     show a0.size - (((i + 1 : Nat) : Int)).toNat < a0.size - ((i : Int)).toNat
     rw [Int.toNat_natCast,Int.toNat_natCast]
     exact meas_Y HLT.out
   ·have hq1 : decide (0 ≤ q) = false := decide_eq_false hq
    have HE : qq (escU a1.data.toList c = [c]) := ⟨by unfold escU;rw [← EQ.out,if_neg hq]⟩
    go_wp2_with (first | (go_at_call 63;rw [HCI.out];refine (HX.out _).mono ?_;rintro e w' ⟨rfl,⟨⟨nd,rfl⟩⟩⟩) | (go_at_call 60;rw [HCI.out];refine (writeByte_calls B B (Lib.byteCells (escL a1.data.toList (a0.data.toList.take i))) (c.toNat : Int) (wr.drewN nd) HI.out (Nat.le_of_succ_le HLEN.out) HBS.out).mono ?_))
    rintro e w3 ⟨rfl,hI3,hB3⟩
    have HI3 : qq (Lib.IsBuilder 92 5 B B (Lib.byteCells (escL a1.data.toList (a0.data.toList.take (i + 1)))) w3) := ⟨by
     have e : Lib.byteCells (escL a1.data.toList (a0.data.toList.take (i + 1))) = Lib.byteCells (escL a1.data.toList (a0.data.toList.take i)) ++ [Value.int .u8 (c.toNat : Int)] := by
      rw [HT.out,escL_snoc,HE.out];simp [Lib.byteCells]
     rw [e]
     exact Or.inr hI3⟩
    have HW3 : qq (Below w.heap.size w w3) := ⟨HW.out.trans (by rw [HBB.out];exact (qz (Below.refl _ _) nd).trans hB3)⟩
    clear hI3 hB3
    go_wp2
    simp only [E3.out]
    go_roundw
    case rel => exact ⟨i + 1,rfl,⟨HLT.out⟩,HI3,HW3⟩
    case measure =>
     show a0.size - (((i + 1 : Nat) : Int)).toNat < a0.size - ((i : Int)).toNat
     rw [Int.toNat_natCast,Int.toNat_natCast]
     exact meas_Y HLT.out
  ·have hie : i = a0.size := by have := HV.out;omega
   have hlt2 : decide ((i : Int) < (a0.size : Int)) = false := decide_eq_false (by omega)
   have hlt3 : decide (i < a0.size) = false := decide_eq_false hlt
   have HT : qq (a0.data.toList.take i = a0.data.toList) := ⟨by rw [List.take_of_length_le];rw [hie];simp⟩
   have HBS : qq (B ≤ wr.heap.size) := ⟨by have := HW.out.size;rw [← HBB.out];exact this⟩
   clear hie hlt
   go_wp2_with (go_at_call 61;refine (string_calls B B (escL a1.data.toList (a0.data.toList.take i)) _ HI.out HBS.out).mono ?_)
   rintro e w3 ⟨rfl,hB3⟩
   go_wp2
   go_ret
   exact ⟨by rw [HT.out];rfl,HW.out.trans (by rw [HBB.out];exact hB3)⟩
end Go.Proofs.Ytccbjchlcelkgaa.Pr
namespace Go.Proofs.Ytccbjchlcelkgaa.Pr
open Go.RowKit Go.Proofs.YtccbjchlcelkgaaW.PrintWords Go.Proofs.YtccbjchlcelkgaaW.PrintLast Go.Proofs.YtccbjchlcelkgaaW.PrintMore
def anyO {α : Type} (p : α → Option Bool) : List α → Option Bool
 | [] => some false
 | x :: xs => (p x).bind fun b => if b = true then some true else anyO p xs
theorem anyO_mono {α : Type} {p q : α → Option Bool} (h : ∀ x,LeO (p x) (q x)) : ∀ l : List α,LeO (anyO p l) (anyO q l)
 | [] => LeO.refl _
 | x :: xs => LeO.bind (h x) (fun _ => LeO.ite (LeO.refl _) (anyO_mono h xs))
theorem anyO_drop {α : Type} {p : α → Option Bool} {l : List α} {k : Nat} {r : Bool} (hk : k < l.length) (h : anyO p (l.drop k) = some r) : ∃ b,p l[k] = some b ∧ (b = true → r = true) ∧ (b = false → anyO p (l.drop (k + 1)) = some r) := by
 rw [List.drop_eq_getElem_cons hk] at h
 obtain ⟨b,hb,h2⟩ := Option.bind_eq_some_iff.1 h
 refine ⟨b,hb,fun e => ?_,fun e => ?_⟩
 ·subst e;simpa using h2.symm
 ·subst e;simpa using h2
end Go.Proofs.Ytccbjchlcelkgaa.Pr
namespace Go.Proofs.Ytccbjchlcelkgaa.Pr
open Go.RowKit Go.Proofs.YtccbjchlcelkgaaW.PrintWords Go.Proofs.YtccbjchlcelkgaaW.PrintLast Go.Proofs.YtccbjchlcelkgaaW.PrintMore
set_option linter.unusedVariables false
set_option linter.unusedSimpArgs false
set_option maxHeartbeats 1000000 in
set_option maxRecDepth 100000 in
theorem indexT122_calls (fn : Nat) (p : S122 → Option Bool) (eg : Enters Try.prog fn) (hp : ∀ (x : S122) (b : Bool) (W : World),p x = some b → Calls Try.prog fn #[.agg #[.string (x.f0),.string (x.f1)]] W fun e w' => e = .returned (.bool b) ∧ Below W.heap.size W w')
  (A0 : Option Addr) (c0 : Nat) (l0 : List S122) (r : Bool) (w : World) (hr0 : Kd.C k122 w A0 l0.length l0) (h : anyO p l0 = some r) :
  Calls Try.prog 179 #[.slice A0 l0.length c0,.func (.func fn) #[] #[]] w fun e w' => ∃ i : Int,e = .returned (.int .i64 i) ∧ decide (0 ≤ i) = r ∧ Below w.heap.size w w' := by
 have hmax := Kd.C_max hr0
 have HR0 := qq.mk hr0
 have HM := qq.mk hmax
 have HP := qq.mk hp
 have HH := qq.mk h
 clear hr0 hmax hp h
 have e1 : ∀ (args : Array Value) (w : World),(callFunc fn args).run Try.prog w = .ok (.enter fn args) w := eg
 go_enter Try.func179,Try.ntmps179
 go_wp2
 go_loopw [5,8] (fun v5 i W => ∃ k : Nat,k ≤ l0.length ∧ i = .int .i64 k ∧ qq (anyO p (l0.drop k) = some r ∧ Below w.heap.size w W)) (fun _ i _ => l0.length - (intOf i).toNat)
 case atStart => exact ⟨0,by omega,rfl,⟨HH.out,by repeat (first | exact Below.refl _ _ | apply below_drew | apply qz)⟩⟩
 case round =>
  obtain ⟨k,hk,rfl,HW⟩ := hrel
  have hmax := HM.out
  by_cases hlt : k < l0.length
  ·obtain ⟨ad,ead,hx0,hx1⟩ := at_T122 HR0.out (k : Int) (by omega) (by omega)
   cases ead
   replace hx0 := (HW.out.2.cell (World.block_lt_of_cell? w _ hx0)).trans hx0
   replace hx1 := (HW.out.2.cell (World.block_lt_of_cell? w _ hx1)).trans hx1
   obtain ⟨b,hb,h1,h2⟩ := anyO_drop hlt HW.out.1
   have ex : vz l0 (k : Int) = l0[k] := by simp [vz,List.getD_eq_getElem?_getD,List.getElem?_eq_getElem hlt]
   have HC := qq.mk (fun W => HP.out l0[k] b W hb)
   clear hb
   rw [← ex] at HC
   clear ex
   generalize vz l0 (k : Int) = x at HC hx0 hx1
   rw [Int.toNat_natCast] at hx0 hx1
   cases b with
   | false =>
    have HB := qq.mk (h2 rfl)
    clear h1 h2
    go_wp2_with (go_at_fn fn;refine (HC.out _).mono ?_;rintro e w' ⟨rfl,hb⟩;have HD := qq.mk (zv (by repeat (first | exact HW.out.2 | apply below_drew | apply qz)) hb);clear hb)
    go_roundw
    case rel => exact ⟨k + 1,by omega,by go_num,⟨HB.out,by repeat (first | exact HD.out | apply below_drew | apply qz)⟩⟩
    case measure => simp [intOf];omega
   | true =>
    have HB := qq.mk (h1 rfl)
    clear h1 h2
    go_wp2_with (go_at_fn fn;refine (HC.out _).mono ?_;rintro e w' ⟨rfl,hb⟩;have HD := qq.mk (zv (by repeat (first | exact HW.out.2 | apply below_drew | apply qz)) hb);clear hb)
    go_ret
    exact ⟨k,rfl,by rw [HB.out];exact decide_eq_true (by omega),by repeat (first | exact HD.out | apply below_drew | apply qz)⟩
  ·obtain rfl : k = l0.length := by omega
   rw [List.drop_length] at HW
   go_wp2
   go_ret
   exact ⟨-1,rfl,by have := Option.some.inj HW.out.1;rw [← this];rfl,by repeat (first | exact HW.out.2 | apply below_drew | apply qz)⟩
theorem containsT122_calls (fn : Nat) (p : S122 → Option Bool) (eg : Enters Try.prog fn) (hp : ∀ (x : S122) (b : Bool) (W : World),p x = some b → Calls Try.prog fn #[.agg #[.string (x.f0),.string (x.f1)]] W fun e w' => e = .returned (.bool b) ∧ Below W.heap.size W w')
  (A0 : Option Addr) (c0 : Nat) (l0 : List S122) (r : Bool) (w : World) (hr0 : Kd.C k122 w A0 l0.length l0) (h : anyO p l0 = some r) :
  Calls Try.prog 144 #[.slice A0 l0.length c0,.func (.func fn) #[] #[]] w fun e w' => e = .returned (.bool r) ∧ Below w.heap.size w w' := by
 have C1 := qq.mk (fun W (hW : Kd.C k122 W A0 l0.length l0) => indexT122_calls fn p eg hp A0 c0 l0 r W hW h)
 have HR0 := qq.mk hr0
 clear hr0 hp h eg
 go_enter Try.func144,Try.ntmps144
 go_wp2_with (go_at_call 179;refine (C1.out _ (by repeat (first | exact HR0.out | apply Kd.C_drewN | apply Kd.C_drew))).mono ?_;rintro e w' ⟨i,rfl,hi,hb⟩;have HD := qq.mk (zv (by repeat (first | exact Below.refl _ _ | apply below_drew | apply qz)) hb);clear hb)
 go_ret
 exact ⟨by simp only [← hi];rfl,by repeat (first | exact HD.out | apply below_drew | apply qz)⟩
end Go.Proofs.Ytccbjchlcelkgaa.Pr
namespace Go.Proofs.Ytccbjchlcelkgaa.Pr
open Go.RowKit Go.Proofs.YtccbjchlcelkgaaW.PrintWords Go.Proofs.YtccbjchlcelkgaaW.PrintLast Go.Proofs.YtccbjchlcelkgaaW.PrintMore
set_option linter.unusedVariables false
set_option linter.unusedSimpArgs false
set_option maxHeartbeats 1000000 in
set_option maxRecDepth 100000 in
theorem indexT34_calls (fn : Nat) (p : S34 → Option Bool) (eg : Enters Try.prog fn) (hp : ∀ (x : S34) (b : Bool) (W : World),p x = some b → Calls Try.prog fn #[.agg #[.int .i64 (x.f0),.int .i64 (x.f1),.string (x.f2),.string (x.f3)]] W fun e w' => e = .returned (.bool b) ∧ Below W.heap.size W w')
  (A0 : Option Addr) (c0 : Nat) (l0 : List S34) (r : Bool) (w : World) (hr0 : Kd.C k34 w A0 l0.length l0) (h : anyO p l0 = some r) :
  Calls Try.prog 137 #[.slice A0 l0.length c0,.func (.func fn) #[] #[]] w fun e w' => ∃ i : Int,e = .returned (.int .i64 i) ∧ decide (0 ≤ i) = r ∧ Below w.heap.size w w' := by
 have hmax := Kd.C_max hr0
 have HR0 := qq.mk hr0
 have HM := qq.mk hmax
 have HP := qq.mk hp
 have HH := qq.mk h
 clear hr0 hmax hp h
 have e1 : ∀ (args : Array Value) (w : World),(callFunc fn args).run Try.prog w = .ok (.enter fn args) w := eg
 go_enter Try.func137,Try.ntmps137
 go_wp2
 go_loopw [5,8] (fun v5 i W => ∃ k : Nat,k ≤ l0.length ∧ i = .int .i64 k ∧ qq (anyO p (l0.drop k) = some r ∧ Below w.heap.size w W)) (fun _ i _ => l0.length - (intOf i).toNat)
 case atStart => exact ⟨0,by omega,rfl,⟨HH.out,by repeat (first | exact Below.refl _ _ | apply below_drew | apply qz)⟩⟩
 case round =>
  obtain ⟨k,hk,rfl,HW⟩ := hrel
  have hmax := HM.out
  by_cases hlt : k < l0.length
  ·obtain ⟨ad,ead,hx0,hx1,hx2,hx3⟩ := at_T34 HR0.out (k : Int) (by omega) (by omega)
   cases ead
   replace hx0 := (HW.out.2.cell (World.block_lt_of_cell? w _ hx0)).trans hx0
   replace hx1 := (HW.out.2.cell (World.block_lt_of_cell? w _ hx1)).trans hx1
   replace hx2 := (HW.out.2.cell (World.block_lt_of_cell? w _ hx2)).trans hx2
   replace hx3 := (HW.out.2.cell (World.block_lt_of_cell? w _ hx3)).trans hx3
   obtain ⟨b,hb,h1,h2⟩ := anyO_drop hlt HW.out.1
   have ex : vk l0 (k : Int) = l0[k] := by simp [vk,List.getD_eq_getElem?_getD,List.getElem?_eq_getElem hlt]
   have HC := qq.mk (fun W => HP.out l0[k] b W hb)
   clear hb
   rw [← ex] at HC
   clear ex
   generalize vk l0 (k : Int) = x at HC hx0 hx1 hx2 hx3
   rw [Int.toNat_natCast] at hx0 hx1 hx2 hx3
   cases b with
   | false =>
    have HB := qq.mk (h2 rfl)
    clear h1 h2
    go_wp2_with (go_at_fn fn;refine (HC.out _).mono ?_;rintro e w' ⟨rfl,hb⟩;have HD := qq.mk (zv (by repeat (first | exact HW.out.2 | apply below_drew | apply qz)) hb);clear hb)
    go_roundw
    case rel => exact ⟨k + 1,by omega,by go_num,⟨HB.out,by repeat (first | exact HD.out | apply below_drew | apply qz)⟩⟩
    case measure => simp [intOf];omega
   | true =>
    have HB := qq.mk (h1 rfl)
    clear h1 h2
    go_wp2_with (go_at_fn fn;refine (HC.out _).mono ?_;rintro e w' ⟨rfl,hb⟩;have HD := qq.mk (zv (by repeat (first | exact HW.out.2 | apply below_drew | apply qz)) hb);clear hb)
    go_ret
    exact ⟨k,rfl,by rw [HB.out];exact decide_eq_true (by omega),by repeat (first | exact HD.out | apply below_drew | apply qz)⟩
  ·obtain rfl : k = l0.length := by omega
   rw [List.drop_length] at HW
   go_wp2
   go_ret
   exact ⟨-1,rfl,by have := Option.some.inj HW.out.1;rw [← this];rfl,by repeat (first | exact HW.out.2 | apply below_drew | apply qz)⟩
theorem containsT34_calls (fn : Nat) (p : S34 → Option Bool) (eg : Enters Try.prog fn) (hp : ∀ (x : S34) (b : Bool) (W : World),p x = some b → Calls Try.prog fn #[.agg #[.int .i64 (x.f0),.int .i64 (x.f1),.string (x.f2),.string (x.f3)]] W fun e w' => e = .returned (.bool b) ∧ Below W.heap.size W w')
  (A0 : Option Addr) (c0 : Nat) (l0 : List S34) (r : Bool) (w : World) (hr0 : Kd.C k34 w A0 l0.length l0) (h : anyO p l0 = some r) :
  Calls Try.prog 88 #[.slice A0 l0.length c0,.func (.func fn) #[] #[]] w fun e w' => e = .returned (.bool r) ∧ Below w.heap.size w w' := by
 have C1 := qq.mk (fun W (hW : Kd.C k34 W A0 l0.length l0) => indexT34_calls fn p eg hp A0 c0 l0 r W hW h)
 have HR0 := qq.mk hr0
 clear hr0 hp h eg
 go_enter Try.func88,Try.ntmps88
 go_wp2_with (go_at_call 137;refine (C1.out _ (by repeat (first | exact HR0.out | apply Kd.C_drewN | apply Kd.C_drew))).mono ?_;rintro e w' ⟨i,rfl,hi,hb⟩;have HD := qq.mk (zv (by repeat (first | exact Below.refl _ _ | apply below_drew | apply qz)) hb);clear hb)
 go_ret
 exact ⟨by simp only [← hi];rfl,by repeat (first | exact HD.out | apply below_drew | apply qz)⟩
end Go.Proofs.Ytccbjchlcelkgaa.Pr
namespace Go.Proofs.Ytccbjchlcelkgaa.Pr
open Go.RowKit Go.Proofs.YtccbjchlcelkgaaW.PrintWords Go.Proofs.YtccbjchlcelkgaaW.PrintLast Go.Proofs.YtccbjchlcelkgaaW.PrintMore
set_option linter.unusedVariables false
set_option linter.unusedSimpArgs false
set_option maxHeartbeats 1000000 in
set_option maxRecDepth 100000 in
theorem indexStr_calls (fn : Nat) (p : ByteArray → Option Bool) (eg : Enters Try.prog fn) (hp : ∀ (x : ByteArray) (b : Bool) (W : World),p x = some b → Calls Try.prog fn #[.string x] W fun e w' => e = .returned (.bool b) ∧ Drawn0 W w')
  (A0 : Option Addr) (c0 : Nat) (l0 : List ByteArray) (r : Bool) (w : World) (hr0 : Kd.C Kd.string w A0 l0.length l0) (h : anyO p l0 = some r) :
  Calls Try.prog 206 #[.slice A0 l0.length c0,.func (.func fn) #[] #[]] w fun e w' => ∃ i : Int,e = .returned (.int .i64 i) ∧ decide (0 ≤ i) = r ∧ Drawn0 w w' := by
 have hmax := Kd.C_max hr0
 have HR0 := qq.mk hr0
 have HM := qq.mk hmax
 have HP := qq.mk hp
 have HH := qq.mk h
 clear hr0 hmax hp h
 have e1 : ∀ (args : Array Value) (w : World),(callFunc fn args).run Try.prog w = .ok (.enter fn args) w := eg
 go_enter Try.func206,Try.ntmps206
 go_wp2
 go_loopw [5,8] (fun v5 i W => ∃ k : Nat,k ≤ l0.length ∧ i = .int .i64 k ∧ qq (anyO p (l0.drop k) = some r ∧ Drawn0 w W)) (fun _ i _ => l0.length - (intOf i).toNat)
 case atStart => exact ⟨0,by omega,rfl,⟨HH.out,Drawn0.refl _⟩⟩
 case round =>
  obtain ⟨k,hk,rfl,HW⟩ := hrel
  have hmax := HM.out
  by_cases hlt : k < l0.length
  ·obtain ⟨ad,rfl,hcell⟩ := Kd.at_string HR0.out k (by omega) (by omega)
   rw [Int.toNat_natCast] at hcell
   obtain ⟨b,hb,h1,h2⟩ := anyO_drop hlt HW.out.1
   have hcell2 : wr.cell? (ad.add k) = some (.string (l0[k])) := by
    obtain ⟨⟨nd,e⟩⟩ := HW.out.2
    rw [e]
    refine hcell.trans ?_
    simp [rd,rdOf,List.getD_eq_getElem?_getD,List.getElem?_eq_getElem hlt]
   clear hcell
   have HC := qq.mk (fun W => HP.out l0[k] b W hb)
   clear hb
   obtain ⟨x,hx⟩ : ∃ x,x = l0[k] := ⟨_,rfl⟩
   rw [← hx] at hcell2 HC
   clear hx
   cases b with
   | false =>
    have HB := qq.mk (h2 rfl)
    clear h1 h2
    go_wp2_with (go_at_fn fn;refine (HC.out _).mono ?_;rintro e w' ⟨rfl,⟨⟨nd,rfl⟩⟩⟩)
    go_roundw
    case rel => exact ⟨k + 1,by omega,by go_num,⟨HB.out,by repeat (first | exact HW.out.2 | apply Drawn0.step)⟩⟩
    case measure => simp [intOf];omega
   | true =>
    have HB := qq.mk (h1 rfl)
    clear h1 h2
    go_wp2_with (go_at_fn fn;refine (HC.out _).mono ?_;rintro e w' ⟨rfl,⟨⟨nd,rfl⟩⟩⟩)
    go_ret
    exact ⟨k,rfl,by rw [HB.out];exact decide_eq_true (by omega),by repeat (first | exact HW.out.2 | apply Drawn0.step)⟩
  ·obtain rfl : k = l0.length := by omega
   rw [List.drop_length] at HW
   go_wp2
   go_ret
   exact ⟨-1,rfl,by have := Option.some.inj HW.out.1;rw [← this];rfl,HW.out.2⟩
theorem containsStr_calls (fn : Nat) (p : ByteArray → Option Bool) (eg : Enters Try.prog fn) (hp : ∀ (x : ByteArray) (b : Bool) (W : World),p x = some b → Calls Try.prog fn #[.string x] W fun e w' => e = .returned (.bool b) ∧ Drawn0 W w')
  (A0 : Option Addr) (c0 : Nat) (l0 : List ByteArray) (r : Bool) (w : World) (hr0 : Kd.C Kd.string w A0 l0.length l0) (h : anyO p l0 = some r) :
  Calls Try.prog 201 #[.slice A0 l0.length c0,.func (.func fn) #[] #[]] w fun e w' => e = .returned (.bool r) ∧ Drawn0 w w' := by
 have C1 := qq.mk (fun W (hW : Kd.C Kd.string W A0 l0.length l0) => indexStr_calls fn p eg hp A0 c0 l0 r W hW h)
 have HR0 := qq.mk hr0
 clear hr0 hp h eg
 go_enter Try.func201,Try.ntmps201
 go_wp2_with (go_at_call 206;refine (C1.out _ HR0.out).mono ?_;rintro e w' ⟨i,rfl,hi,⟨⟨nd,rfl⟩⟩⟩)
 go_ret
 exact ⟨by simp only [← hi];rfl,⟨⟨_,rfl⟩⟩⟩
end Go.Proofs.Ytccbjchlcelkgaa.Pr
namespace Go.Proofs.Ytccbjchlcelkgaa.Pr
open Go.RowKit Go.Proofs.YtccbjchlcelkgaaW.PrintWords Go.Proofs.YtccbjchlcelkgaaW.PrintLast Go.Proofs.YtccbjchlcelkgaaW.PrintMore
attribute [local go_sem] max2_int min2_int max_two min_two max_three min_three max_four min_four
set_option linter.unusedVariables false
set_option linter.unusedSimpArgs false
def xk.f (a0 : Int) : Option (Bool) := if a0 ≥ 48 then (some (decide (a0 ≤ 57))) else (some false)
set_option maxHeartbeats 8000000 in
set_option maxRecDepth 100000 in
theorem xk.calls (a0 : Int) (r : Bool) (w : World) (h : xk.f a0 = some r) :
  Calls Try.prog 163 #[.int .u8 a0] w fun e w' => e = .returned (.bool r) ∧ Drawn0 w w' := by
 have H : (if a0 ≥ 48 then (some (decide (a0 ≤ 57))) else (some false)) = some r := h
 clear h
 by_cases c2 : a0 ≥ 48
 ·rw [if_pos c2] at H
  have c2b0 : decide (48 ≤ a0) = true := decide_eq_true c2
  clear c2
  obtain rfl := Option.some.inj H
  go_enter Try.func163,Try.ntmps163
  go_wp2
  go_ret
  exact ⟨by first | rfl | (simp;done) | (simp [*];done),by repeat (first | exact Drawn0.refl _ | apply Drawn0.step)⟩
 ·rw [if_neg c2] at H
  have c2b0 : decide (48 ≤ a0) = false := decide_eq_false c2
  clear c2
  obtain rfl := Option.some.inj H
  go_enter Try.func163,Try.ntmps163
  go_wp2
  go_ret
  exact ⟨by first | rfl | (simp;done) | (simp [*];done),by repeat (first | exact Drawn0.refl _ | apply Drawn0.step)⟩
end Go.Proofs.Ytccbjchlcelkgaa.Pr
namespace Go.Proofs.Ytccbjchlcelkgaa.Pr
open Go.RowKit Go.Proofs.YtccbjchlcelkgaaW.PrintWords Go.Proofs.YtccbjchlcelkgaaW.PrintLast Go.Proofs.YtccbjchlcelkgaaW.PrintMore
attribute [local go_sem] max2_int min2_int max_two min_two max_three min_three max_four min_four
set_option linter.unusedVariables false
set_option linter.unusedSimpArgs false
def xx.f (a0 : Int) : Option (Bool) := if a0 ≥ 97 then (if a0 ≤ 122 then (some true) else (if a0 ≥ 65 then (some (decide (a0 ≤ 90))) else (some false))) else (if a0 ≥ 65 then (some (decide (a0 ≤ 90))) else (some false))
set_option maxHeartbeats 8000000 in
set_option maxRecDepth 100000 in
theorem xx.calls (a0 : Int) (r : Bool) (w : World) (h : xx.f a0 = some r) :
  Calls Try.prog 191 #[.int .u8 a0] w fun e w' => e = .returned (.bool r) ∧ Drawn0 w w' := by
 have H : (if a0 ≥ 97 then (if a0 ≤ 122 then (some true) else (if a0 ≥ 65 then (some (decide (a0 ≤ 90))) else (some false))) else (if a0 ≥ 65 then (some (decide (a0 ≤ 90))) else (some false))) = some r := h
 clear h
 by_cases c2 : a0 ≥ 97
 ·rw [if_pos c2] at H
  have c2b0 : decide (97 ≤ a0) = true := decide_eq_true c2
  clear c2
  by_cases c3 : a0 ≤ 122
  ·rw [if_pos c3] at H
   have c3b0 : decide (a0 ≤ 122) = true := decide_eq_true c3
   clear c3
   obtain rfl := Option.some.inj H
   go_enter Try.func191,Try.ntmps191
   go_wp2
   go_ret
   exact ⟨by first | rfl | (simp;done) | (simp [*];done),by repeat (first | exact Drawn0.refl _ | apply Drawn0.step)⟩
  ·rw [if_neg c3] at H
   have c3b0 : decide (a0 ≤ 122) = false := decide_eq_false c3
   clear c3
   by_cases c4 : a0 ≥ 65
   ·rw [if_pos c4] at H
    have c4b0 : decide (65 ≤ a0) = true := decide_eq_true c4
    clear c4
    obtain rfl := Option.some.inj H
    go_enter Try.func191,Try.ntmps191
    go_wp2
    go_ret
    exact ⟨by first | rfl | (simp;done) | (simp [*];done),by repeat (first | exact Drawn0.refl _ | apply Drawn0.step)⟩
   ·rw [if_neg c4] at H
    have c4b0 : decide (65 ≤ a0) = false := decide_eq_false c4
    clear c4
    obtain rfl := Option.some.inj H
    go_enter Try.func191,Try.ntmps191
    go_wp2
    go_ret
    exact ⟨by first | rfl | (simp;done) | (simp [*];done),by repeat (first | exact Drawn0.refl _ | apply Drawn0.step)⟩
 ·rw [if_neg c2] at H
  have c2b0 : decide (97 ≤ a0) = false := decide_eq_false c2
  clear c2
  by_cases c5 : a0 ≥ 65
  ·rw [if_pos c5] at H
   have c5b0 : decide (65 ≤ a0) = true := decide_eq_true c5
   clear c5
   obtain rfl := Option.some.inj H
   go_enter Try.func191,Try.ntmps191
   go_wp2
   go_ret
   exact ⟨by first | rfl | (simp;done) | (simp [*];done),by repeat (first | exact Drawn0.refl _ | apply Drawn0.step)⟩
  ·rw [if_neg c5] at H
   have c5b0 : decide (65 ≤ a0) = false := decide_eq_false c5
   clear c5
   obtain rfl := Option.some.inj H
   go_enter Try.func191,Try.ntmps191
   go_wp2
   go_ret
   exact ⟨by first | rfl | (simp;done) | (simp [*];done),by repeat (first | exact Drawn0.refl _ | apply Drawn0.step)⟩
end Go.Proofs.Ytccbjchlcelkgaa.Pr
namespace Go.Proofs.Ytccbjchlcelkgaa.Pr
open Go.RowKit Go.Proofs.YtccbjchlcelkgaaW.PrintWords Go.Proofs.YtccbjchlcelkgaaW.PrintLast Go.Proofs.YtccbjchlcelkgaaW.PrintMore
attribute [local go_sem] max2_int min2_int max_two min_two max_three min_three max_four min_four
set_option linter.unusedVariables false
set_option linter.unusedSimpArgs false
def qqz.f (a0 : Int) : Option (Bool) := (xx.f a0).bind fun t101 => (if t101 = true then (some true) else ((xk.f a0).bind fun t102 => (if t102 = true then (some true) else (some (a0 == 95)))))
set_option maxHeartbeats 8000000 in
set_option maxRecDepth 100000 in
theorem qqz.calls (a0 : Int) (r : Bool) (w : World) (h : qqz.f a0 = some r) :
  Calls Try.prog 164 #[.int .u8 a0] w fun e w' => e = .returned (.bool r) ∧ Drawn0 w w' := by
 have H : ((xx.f a0).bind fun t101 => (if t101 = true then (some true) else ((xk.f a0).bind fun t102 => (if t102 = true then (some true) else (some (a0 == 95)))))) = some r := h
 clear h
 replace H := Option.bind_eq_some_iff.mp H
 obtain ⟨t101,A20,H⟩ := H
 replace H : (if t101 = true then (some true) else ((xk.f a0).bind fun t102 => (if t102 = true then (some true) else (some (a0 == 95))))) = some r := H
 have A2 := qq.mk A20
 clear A20
 by_cases c3 : t101 = true
 ·subst c3
  have H1 : (some true) = some r := by rw [if_pos rfl] at H;exact H
  clear H
  have H := H1
  clear H1
  obtain rfl := Option.some.inj H
  go_enter Try.func164,Try.ntmps164
  go_wp2_with (first | ((with_reducible refine kz (f := 191) rfl ?_);refine goesL_ (some 4) rfl rfl Try.func191 (by kernel_rfl) rfl #[.int .u8 a0] rfl (by (try simp only [List.map_toArray,List.map_cons,List.map_nil]);first | done | rfl | (simp only [List.length_drop,List.length_take];rfl)) ?_;(with_reducible refine (xx.calls a0 true _ A2.out).mono ?_);rintro e w' ⟨rfl,⟨nd,rfl⟩⟩;refine ⟨_,rfl,?_⟩))
  go_ret
  exact ⟨by first | rfl | (simp;done) | (simp [*];done),by repeat (first | exact Drawn0.refl _ | apply Drawn0.step)⟩
 ·replace c3 := Bool.eq_false_iff.mpr c3
  subst c3
  have H1 : ((xk.f a0).bind fun t102 => (if t102 = true then (some true) else (some (a0 == 95)))) = some r := by rw [if_neg (show ¬ (false = true) by decide)] at H;exact H
  clear H
  have H := H1
  clear H1
  replace H := Option.bind_eq_some_iff.mp H
  obtain ⟨t102,A40,H⟩ := H
  replace H : (if t102 = true then (some true) else (some (a0 == 95))) = some r := H
  have A4 := qq.mk A40
  clear A40
  by_cases c5 : t102 = true
  ·subst c5
   have H1 : (some true) = some r := by rw [if_pos rfl] at H;exact H
   clear H
   have H := H1
   clear H1
   obtain rfl := Option.some.inj H
   go_enter Try.func164,Try.ntmps164
   go_wp2_with (first | ((with_reducible refine kz (f := 191) rfl ?_);refine goesL_ (some 4) rfl rfl Try.func191 (by kernel_rfl) rfl #[.int .u8 a0] rfl (by (try simp only [List.map_toArray,List.map_cons,List.map_nil]);first | done | rfl | (simp only [List.length_drop,List.length_take];rfl)) ?_;(with_reducible refine (xx.calls a0 false _ A2.out).mono ?_);rintro e w' ⟨rfl,⟨nd,rfl⟩⟩;refine ⟨_,rfl,?_⟩) | (go_at_call 163;(with_reducible refine (xk.calls a0 true _ A4.out).mono ?_);rintro e w' ⟨rfl,⟨nd,rfl⟩⟩))
   go_ret
   exact ⟨by first | rfl | (simp;done) | (simp [*];done),by repeat (first | exact Drawn0.refl _ | apply Drawn0.step)⟩
  ·replace c5 := Bool.eq_false_iff.mpr c5
   subst c5
   have H1 : (some (a0 == 95)) = some r := by rw [if_neg (show ¬ (false = true) by decide)] at H;exact H
   clear H
   have H := H1
   clear H1
   obtain rfl := Option.some.inj H
   go_enter Try.func164,Try.ntmps164
   go_wp2_with (first | ((with_reducible refine kz (f := 191) rfl ?_);refine goesL_ (some 4) rfl rfl Try.func191 (by kernel_rfl) rfl #[.int .u8 a0] rfl (by (try simp only [List.map_toArray,List.map_cons,List.map_nil]);first | done | rfl | (simp only [List.length_drop,List.length_take];rfl)) ?_;(with_reducible refine (xx.calls a0 false _ A2.out).mono ?_);rintro e w' ⟨rfl,⟨nd,rfl⟩⟩;refine ⟨_,rfl,?_⟩) | (go_at_call 163;(with_reducible refine (xk.calls a0 false _ A4.out).mono ?_);rintro e w' ⟨rfl,⟨nd,rfl⟩⟩))
   go_ret
   exact ⟨by first | rfl | (simp;done) | (simp [*];done),by repeat (first | exact Drawn0.refl _ | apply Drawn0.step)⟩
end Go.Proofs.Ytccbjchlcelkgaa.Pr
namespace Go.Proofs.Ytccbjchlcelkgaa.Pr
open Go.RowKit Go.Proofs.YtccbjchlcelkgaaW.PrintWords Go.Proofs.YtccbjchlcelkgaaW.PrintLast Go.Proofs.YtccbjchlcelkgaaW.PrintMore
attribute [local go_sem] max2_int min2_int max_two min_two max_three min_three max_four min_four
set_option linter.unusedVariables false
set_option linter.unusedSimpArgs false
mutual
def wj.j0 : Nat → ByteArray → Bool → Option (Bool)
 | 0,_,_ => none
 | k + 1,x0,x15 => if x15 = true then (some false) else (wj.l0 k x0 (x0.size : Int) 0)
def wj.l0 : Nat → ByteArray → Int → Int → Option (Bool)
 | 0,_,_,_ => none
 | k + 1,x0,x17,x18 => if x18 < x17 then (if 0 ≤ x18 then (if x18 < (x0.size : Int) then ((qqz.f (bt x0 x18)).bind fun t102 => (if t102 = true then (wj.l0 k x0 x17 (wrap64 (x18 + 1))) else (some false))) else (none)) else (none)) else (some true)
end
def wj.f (k : Nat) (a0 : ByteArray) : Option (Bool) := if a0.toList = ([] : List UInt8) then (wj.j0 k a0 true) else (if (a0.size : Int) > 30 then (wj.j0 k a0 true) else (if 0 < (a0.size : Int) then ((xk.f (bt a0 0)).bind fun t101 => (wj.j0 k a0 t101)) else (none)))
theorem wj.mono_l : ∀ k,(∀ y0 y1,LeO (wj.j0 k y0 y1) (wj.j0 (k + 1) y0 y1)) ∧ (∀ y0 y1 y2,LeO (wj.l0 k y0 y1 y2) (wj.l0 (k + 1) y0 y1 y2))
 | 0 => ⟨fun _ _ r h => by simp [wj.j0] at h,fun _ _ _ r h => by simp [wj.l0] at h⟩
 | k + 1 => by
  obtain ⟨ih0,ih1⟩ := wj.mono_l k
  refine ⟨?_,?_⟩
  ·intro y0 y1
   unfold wj.j0
   repeat' first
   | (with_reducible exact ih0 _ _)
   | (with_reducible exact ih1 _ _ _)
   | (with_reducible exact LeO.refl _)
   | (with_reducible exact LeO.none _)
   | (with_reducible refine LeO.ite ?_ ?_)
   | (with_reducible refine LeO.bind ?_ (fun _ => ?_))
   | exact ih0 _ _
   | exact ih1 _ _ _
   | exact LeO.none _
   | refine LeO.ite ?_ ?_
   | refine LeO.bind ?_ (fun _ => ?_)
  ·intro y0 y1 y2
   unfold wj.l0
   repeat' first
   | (with_reducible exact ih0 _ _)
   | (with_reducible exact ih1 _ _ _)
   | (with_reducible exact LeO.refl _)
   | (with_reducible exact LeO.none _)
   | (with_reducible refine LeO.ite ?_ ?_)
   | (with_reducible refine LeO.bind ?_ (fun _ => ?_))
   | exact ih0 _ _
   | exact ih1 _ _ _
   | exact LeO.none _
   | refine LeO.ite ?_ ?_
   | refine LeO.bind ?_ (fun _ => ?_)
theorem wj.mono : ∀ a0 k,LeO (wj.f k a0) (wj.f (k + 1) a0) := by
 intro a0 k
 obtain ⟨ih0,ih1⟩ := wj.mono_l k
 unfold wj.f
 repeat' first
   | (with_reducible exact ih0 _ _)
   | (with_reducible exact ih1 _ _ _)
   | (with_reducible exact LeO.refl _)
   | (with_reducible exact LeO.none _)
   | (with_reducible refine LeO.ite ?_ ?_)
   | (with_reducible refine LeO.bind ?_ (fun _ => ?_))
   | exact ih0 _ _
   | exact ih1 _ _ _
   | exact LeO.none _
   | refine LeO.ite ?_ ?_
   | refine LeO.bind ?_ (fun _ => ?_)
set_option maxHeartbeats 8000000 in
set_option maxRecDepth 100000 in
theorem wj.calls (k : Nat) (a0 : ByteArray) (r : Bool) (w : World) (h : wj.f k a0 = some r) :
  Calls Try.prog 129 #[.string a0] w fun e w' => e = .returned (.bool r) ∧ Drawn0 w w' := by
 have H : (if a0.toList = ([] : List UInt8) then (wj.j0 k a0 true) else (if (a0.size : Int) > 30 then (wj.j0 k a0 true) else (if 0 < (a0.size : Int) then ((xk.f (bt a0 0)).bind fun t101 => (wj.j0 k a0 t101)) else (none)))) = some r := h
 clear h
 have HC2 := qq.mk H
 clear H
 go_enter Try.func129,Try.ntmps129
 go_upto_region 1 with (fail)
 go_cut [15] (fun v15 wc => ∃ (kq : Nat) (x15_1 : Bool),v15 = .bool x15_1 ∧ qq (wj.j0 kq a0 x15_1 = some r) ∧ qq (kq ≤ k) ∧ Drawn0 w wc)
 case first =>
  have H := HC2.out
  clear HC2
  by_cases c3 : a0.toList = ([] : List UInt8)
  ·rw [if_pos c3] at H
   have c3b0 : (a0.toList == ([] : List UInt8)) = true := beq_iff_eq.mpr c3
   have c3b1 : (a0.toList != ([] : List UInt8)) = false := bne_eq_false_iff_eq.mpr c3
   clear c3
   (first | rw [c3b0] | (simp only [i64_w,i32_w];rw [c3b0]) | skip)
   have H' := qq.mk H
   clear H
   go_wp2
   go_meet
   case rel => exact ⟨_,(true),(by first | rfl | (simp;done) | (simp [*];done) | (generalize ByteArray.toList _ = l_;cases l_ <;> first | rfl | (simp;done))),H',⟨by first | omega | exact Nat.le_refl _⟩,by repeat (first | exact Drawn0.refl _ | apply Drawn0.step)⟩
  ·rw [if_neg c3] at H
   have c3b0 : (a0.toList == ([] : List UInt8)) = false := beq_eq_false_iff_ne.mpr c3
   have c3b1 : (a0.toList != ([] : List UInt8)) = true := bne_iff_ne.mpr c3
   (first | rw [c3b0] | (simp only [i64_w,i32_w];rw [c3b0]) | skip)
   by_cases c4 : (a0.size : Int) > 30
   ·rw [if_pos c4] at H
    have c4b0 : decide (30 < (a0.size : Int)) = true := decide_eq_true c4
    have c4b1 : decide (30 < a0.size) = true := decide_eq_true (by omega)
    clear c4
    have H' := qq.mk H
    clear H
    go_wp2
    go_meet
    case rel => exact ⟨_,(true),(by first | rfl | (simp;done) | (simp [*];done) | (generalize ByteArray.toList _ = l_;cases l_ <;> first | rfl | (simp;done))),H',⟨by first | omega | exact Nat.le_refl _⟩,by repeat (first | exact Drawn0.refl _ | apply Drawn0.step)⟩
   ·rw [if_neg c4] at H
    have c4b0 : decide (30 < (a0.size : Int)) = false := decide_eq_false c4
    have c4b1 : decide (30 < a0.size) = false := decide_eq_false (by omega)
    clear c4
    by_cases c5 : 0 < (a0.size : Int)
    ·rw [if_pos c5] at H
     have c5b0 : decide (0 < (a0.size : Int)) = true := decide_eq_true c5
     have c5b1 : decide (0 < a0.size) = true := decide_eq_true (by omega)
     clear c5
     replace H := Option.bind_eq_some_iff.mp H
     obtain ⟨t101,A70,H⟩ := H
     replace H : (wj.j0 k a0 t101) = some r := H
     have A7 := qq.mk A70
     clear A70
     have H' := qq.mk H
     clear H
     have p6 : 0 ≤ (0 : Int) := (by omega)
     have q6 : 0 < a0.size := (by have : (0 : Int) < (a0.size : Int) := of_decide_eq_true (by assumption);omega)
     have hx6 : ∀ h : 0 < a0.size,((a0[0]'h).toNat : Int) = bt a0 0 := bt_at a0 0
     clear p6
     have qi6 : (0 < (a0.size : Int)) = True := eq_true (of_decide_eq_true (by assumption))
     replace q6 := eq_true q6
     go_wp2_with (first | (go_at_call 163;(with_reducible refine (xk.calls (bt a0 0) t101 _ A7.out).mono ?_);rintro e w' ⟨rfl,⟨nd,rfl⟩⟩))
     go_meet
     case rel => exact ⟨_,(t101),(by first | rfl | (simp;done) | (simp [*];done) | (generalize ByteArray.toList _ = l_;cases l_ <;> first | rfl | (simp;done))),H',⟨by first | omega | exact Nat.le_refl _⟩,by repeat (first | exact Drawn0.refl _ | apply Drawn0.step)⟩
    ·rw [if_neg c5] at H
     exact absurd H (by simp)
 case rest =>
  clear HC2
  try clear c1
  try clear p2
  try clear c3
  try clear c3b0
  try clear c3b1
  try clear c4
  try clear c4b0
  try clear c4b1
  try clear c5
  try clear c5b0
  try clear c5b1
  try clear p6
  try clear q6
  try clear hx6
  try clear qi6
  try clear p6
  try clear q6
  obtain ⟨kq,x15_1,rfl,HA,HJ1,⟨mc1,rfl⟩⟩ := hcut
  cases kq with
  | zero => exact absurd HA.out (by simp [wj.j0])
  | succ kj1 =>
   have H := HA.out
   clear HA
   simp only [wj.j0] at H
   by_cases c8 : x15_1 = true
   ·subst c8
    have H1 : (some false) = some r := by rw [if_pos rfl] at H;exact H
    clear H
    have H := H1
    clear H1
    obtain rfl := Option.some.inj H
    go_wp2
    go_ret
    exact ⟨by first | rfl | (simp;done) | (simp [*];done),by repeat (first | exact Drawn0.refl _ | apply Drawn0.step)⟩
   ·replace c8 := Bool.eq_false_iff.mpr c8
    subst c8
    have H1 : (wj.l0 kj1 a0 (a0.size : Int) 0) = some r := by rw [if_neg (show ¬ (false = true) by decide)] at H;exact H
    clear H
    have H := H1
    clear H1
    have H' := qq.mk H
    clear H
    go_wp2
    go_loopg [18] kj1 (fun kq v18 w' => ∃ (x18_2 : Int),v18 = .int .i64 x18_2 ∧ qq (wj.l0 kq a0 (a0.size : Int) x18_2 = some r) ∧ qq (kq ≤ kj1) ∧ Drawn0 w w')
    case atStart => exact ⟨(0),(by first | rfl | (simp;done) | (simp [*];done) | (generalize ByteArray.toList _ = l_;cases l_ <;> first | rfl | (simp;done))),H',⟨Nat.le_refl _⟩,by repeat (first | exact Drawn0.refl _ | apply Drawn0.step)⟩
    case round =>
     clear H'
     try clear c1
     try clear p2
     try clear c3
     try clear c3b0
     try clear c3b1
     try clear c4
     try clear c4b0
     try clear c4b1
     try clear c5
     try clear c5b0
     try clear c5b1
     try clear p6
     try clear q6
     try clear hx6
     try clear qi6
     try clear c8
     try clear p2
     try clear p6
     try clear q6
     obtain ⟨x18_2,rfl,HA,HK2,⟨m2,rfl⟩⟩ := hrel
     cases gk with
     | zero => exact absurd HA.out (by simp [wj.l0])
     | succ k2 =>
      have H := HA.out
      clear HA
      simp only [wj.l0] at H
      by_cases c9 : x18_2 < (a0.size : Int)
      ·rw [if_pos c9] at H
       have c9b0 : decide (x18_2 < (a0.size : Int)) = true := decide_eq_true c9
       clear c9
       by_cases c10 : 0 ≤ x18_2
       ·rw [if_pos c10] at H
        have c10b0 : decide (0 ≤ x18_2) = true := decide_eq_true c10
        clear c10
        by_cases c11 : x18_2 < (a0.size : Int)
        ·rw [if_pos c11] at H
         have c11b0 : decide (x18_2 < (a0.size : Int)) = true := decide_eq_true c11
         clear c11
         replace H := Option.bind_eq_some_iff.mp H
         obtain ⟨t102,A130,H⟩ := H
         replace H : (if t102 = true then (wj.l0 k2 a0 (a0.size : Int) (wrap64 (x18_2 + 1))) else (some false)) = some r := H
         have A13 := qq.mk A130
         clear A130
         by_cases c14 : t102 = true
         ·subst c14
          have H1 : (wj.l0 k2 a0 (a0.size : Int) (wrap64 (x18_2 + 1))) = some r := by rw [if_pos rfl] at H;exact H
          clear H
          have H := H1
          clear H1
          have H' := qq.mk H
          clear H
          have p12 : 0 ≤ (x18_2 : Int) := of_decide_eq_true (by assumption)
          have q12 : x18_2 < (a0.size : Int) := of_decide_eq_true (by assumption)
          have hx12 := bt_at a0 x18_2
          replace p12 := eq_true p12
          replace q12 := eq_true q12
          go_wp2_with (first | ((with_reducible refine kz (f := 164) rfl ?_);refine goesL_ (some 24) rfl rfl Try.func164 (by kernel_rfl) rfl #[.int .u8 (bt a0 x18_2)] rfl (by (try simp only [List.map_toArray,List.map_cons,List.map_nil]);first | done | rfl | (simp only [List.length_drop,List.length_take];rfl)) ?_;(with_reducible refine (qqz.calls (bt a0 x18_2) true _ A13.out).mono ?_);rintro e w' ⟨rfl,⟨nd,rfl⟩⟩;refine ⟨_,rfl,?_⟩))
          go_roundg k2
          case measure => have := HJ1.out;have := HK2.out;omega
          case rel => exact ⟨(wrap64 (x18_2 + 1)),(by first | rfl | (simp;done) | (simp [*];done) | (generalize ByteArray.toList _ = l_;cases l_ <;> first | rfl | (simp;done))),H',⟨by have := HJ1.out;have := HK2.out;omega⟩,by repeat (first | exact Drawn0.refl _ | apply Drawn0.step)⟩
         ·replace c14 := Bool.eq_false_iff.mpr c14
          subst c14
          have H1 : (some false) = some r := by rw [if_neg (show ¬ (false = true) by decide)] at H;exact H
          clear H
          have H := H1
          clear H1
          obtain rfl := Option.some.inj H
          have p12 : 0 ≤ (x18_2 : Int) := of_decide_eq_true (by assumption)
          have q12 : x18_2 < (a0.size : Int) := of_decide_eq_true (by assumption)
          have hx12 := bt_at a0 x18_2
          replace p12 := eq_true p12
          replace q12 := eq_true q12
          go_wp2_with (first | ((with_reducible refine kz (f := 164) rfl ?_);refine goesL_ (some 24) rfl rfl Try.func164 (by kernel_rfl) rfl #[.int .u8 (bt a0 x18_2)] rfl (by (try simp only [List.map_toArray,List.map_cons,List.map_nil]);first | done | rfl | (simp only [List.length_drop,List.length_take];rfl)) ?_;(with_reducible refine (qqz.calls (bt a0 x18_2) false _ A13.out).mono ?_);rintro e w' ⟨rfl,⟨nd,rfl⟩⟩;refine ⟨_,rfl,?_⟩))
          go_ret
          exact ⟨by first | rfl | (simp;done) | (simp [*];done),by repeat (first | exact Drawn0.refl _ | apply Drawn0.step)⟩
        ·rw [if_neg c11] at H
         exact absurd H (by simp)
       ·rw [if_neg c10] at H
        exact absurd H (by simp)
      ·rw [if_neg c9] at H
       have c9b0 : decide (x18_2 < (a0.size : Int)) = false := decide_eq_false c9
       clear c9
       obtain rfl := Option.some.inj H
       go_wp2
       go_ret
       exact ⟨by first | rfl | (simp;done) | (simp [*];done),by repeat (first | exact Drawn0.refl _ | apply Drawn0.step)⟩
end Go.Proofs.Ytccbjchlcelkgaa.Pr
namespace Go.Proofs.Ytccbjchlcelkgaa.Pr
open Go.RowKit Go.Proofs.YtccbjchlcelkgaaW.PrintWords Go.Proofs.YtccbjchlcelkgaaW.PrintLast Go.Proofs.YtccbjchlcelkgaaW.PrintMore
attribute [local go_sem] max2_int min2_int max_two min_two max_three min_three max_four min_four
set_option linter.unusedVariables false
set_option linter.unusedSimpArgs false
mutual
def qqq.j0 : Nat → ByteArray → Bool → Option (Bool)
 | 0,_,_ => none
 | k + 1,x0,x17 => if x17 = true then (some false) else (qqq.l0 k x0 (x0.size : Int) 0)
def qqq.l0 : Nat → ByteArray → Int → Int → Option (Bool)
 | 0,_,_,_ => none
 | k + 1,x0,x19,x20 => if x20 < x19 then (if 0 ≤ x20 then (if x20 < (x0.size : Int) then (if (bt x0 x20) < 32 then (some false) else (if (bt x0 x20) > 126 then (some false) else (qqq.l0 k x0 x19 (wrap64 (x20 + 1))))) else (none)) else (none)) else (some true)
end
def qqq.f (k : Nat) (a0 : ByteArray) (a1 : Int) (a2 : Int) : Option (Bool) := if (a0.size : Int) < a1 then (qqq.j0 k a0 true) else (qqq.j0 k a0 (decide ((a0.size : Int) > a2)))
theorem qqq.mono_l : ∀ k,(∀ y0 y1,LeO (qqq.j0 k y0 y1) (qqq.j0 (k + 1) y0 y1)) ∧ (∀ y0 y1 y2,LeO (qqq.l0 k y0 y1 y2) (qqq.l0 (k + 1) y0 y1 y2))
 | 0 => ⟨fun _ _ r h => by simp [qqq.j0] at h,fun _ _ _ r h => by simp [qqq.l0] at h⟩
 | k + 1 => by
  obtain ⟨ih0,ih1⟩ := qqq.mono_l k
  refine ⟨?_,?_⟩
  ·intro y0 y1
   unfold qqq.j0
   repeat' first
   | (with_reducible exact ih0 _ _)
   | (with_reducible exact ih1 _ _ _)
   | (with_reducible exact LeO.refl _)
   | (with_reducible exact LeO.none _)
   | (with_reducible refine LeO.ite ?_ ?_)
   | (with_reducible refine LeO.bind ?_ (fun _ => ?_))
   | exact ih0 _ _
   | exact ih1 _ _ _
   | exact LeO.none _
   | refine LeO.ite ?_ ?_
   | refine LeO.bind ?_ (fun _ => ?_)
  ·intro y0 y1 y2
   unfold qqq.l0
   repeat' first
   | (with_reducible exact ih0 _ _)
   | (with_reducible exact ih1 _ _ _)
   | (with_reducible exact LeO.refl _)
   | (with_reducible exact LeO.none _)
   | (with_reducible refine LeO.ite ?_ ?_)
   | (with_reducible refine LeO.bind ?_ (fun _ => ?_))
   | exact ih0 _ _
   | exact ih1 _ _ _
   | exact LeO.none _
   | refine LeO.ite ?_ ?_
   | refine LeO.bind ?_ (fun _ => ?_)
theorem qqq.mono : ∀ a0 a1 a2 k,LeO (qqq.f k a0 a1 a2) (qqq.f (k + 1) a0 a1 a2) := by
 intro a0 a1 a2 k
 obtain ⟨ih0,ih1⟩ := qqq.mono_l k
 unfold qqq.f
 repeat' first
   | (with_reducible exact ih0 _ _)
   | (with_reducible exact ih1 _ _ _)
   | (with_reducible exact LeO.refl _)
   | (with_reducible exact LeO.none _)
   | (with_reducible refine LeO.ite ?_ ?_)
   | (with_reducible refine LeO.bind ?_ (fun _ => ?_))
   | exact ih0 _ _
   | exact ih1 _ _ _
   | exact LeO.none _
   | refine LeO.ite ?_ ?_
   | refine LeO.bind ?_ (fun _ => ?_)
set_option maxHeartbeats 8000000 in
set_option maxRecDepth 100000 in
theorem qqq.calls (k : Nat) (a0 : ByteArray) (a1 : Int) (a2 : Int) (r : Bool) (w : World) (h : qqq.f k a0 a1 a2 = some r) :
  Calls Try.prog 128 #[.string a0,.int .i64 a1,.int .i64 a2] w fun e w' => e = .returned (.bool r) ∧ Drawn0 w w' := by
 have H : (if (a0.size : Int) < a1 then (qqq.j0 k a0 true) else (qqq.j0 k a0 (decide ((a0.size : Int) > a2)))) = some r := h
 clear h
 have HC4 := qq.mk H
 clear H
 go_enter Try.func128,Try.ntmps128
 go_upto_region 1 with (fail)
 go_cut [17] (fun v17 wc => ∃ (kq : Nat) (x17_3 : Bool),v17 = .bool x17_3 ∧ qq (qqq.j0 kq a0 x17_3 = some r) ∧ qq (kq ≤ k) ∧ Drawn0 w wc)
 case first =>
  have H := HC4.out
  clear HC4
  by_cases c5 : (a0.size : Int) < a1
  ·rw [if_pos c5] at H
   have c5b0 : decide ((a0.size : Int) < a1) = true := decide_eq_true c5
   clear c5
   (first | rw [c5b0] | (simp only [i64_w,i32_w];rw [c5b0]) | skip)
   have H' := qq.mk H
   clear H
   go_wp2
   go_meet
   case rel => exact ⟨_,(true),(by first | rfl | (simp;done) | (simp [*];done)),H',⟨by first | omega | exact Nat.le_refl _⟩,by repeat (first | exact Drawn0.refl _ | apply Drawn0.step)⟩
  ·rw [if_neg c5] at H
   have c5b0 : decide ((a0.size : Int) < a1) = false := decide_eq_false c5
   clear c5
   (first | rw [c5b0] | (simp only [i64_w,i32_w];rw [c5b0]) | skip)
   have H' := qq.mk H
   clear H
   go_wp2
   go_meet
   case rel => exact ⟨_,(decide ((a0.size : Int) > a2)),(by first | rfl | (simp;done) | (simp [*];done)),H',⟨by first | omega | exact Nat.le_refl _⟩,by repeat (first | exact Drawn0.refl _ | apply Drawn0.step)⟩
 case rest =>
  clear HC4
  try clear c1
  try clear p2
  try clear c5
  try clear c5b0
  obtain ⟨kq,x17_3,rfl,HA,HJ3,⟨mc3,rfl⟩⟩ := hcut
  cases kq with
  | zero => exact absurd HA.out (by simp [qqq.j0])
  | succ kj3 =>
   have H := HA.out
   clear HA
   simp only [qqq.j0] at H
   by_cases c6 : x17_3 = true
   ·subst c6
    have H1 : (some false) = some r := by rw [if_pos rfl] at H;exact H
    clear H
    have H := H1
    clear H1
    obtain rfl := Option.some.inj H
    go_wp2
    go_ret
    exact ⟨by first | rfl | (simp;done) | (simp [*];done),by repeat (first | exact Drawn0.refl _ | apply Drawn0.step)⟩
   ·replace c6 := Bool.eq_false_iff.mpr c6
    subst c6
    have H1 : (qqq.l0 kj3 a0 (a0.size : Int) 0) = some r := by rw [if_neg (show ¬ (false = true) by decide)] at H;exact H
    clear H
    have H := H1
    clear H1
    have H' := qq.mk H
    clear H
    go_wp2
    go_loopg [20] kj3 (fun kq v20 w' => ∃ (x20_2 : Int),v20 = .int .i64 x20_2 ∧ qq (qqq.l0 kq a0 (a0.size : Int) x20_2 = some r) ∧ qq (kq ≤ kj3) ∧ Drawn0 w w')
    case atStart => exact ⟨(0),(by first | rfl | (simp;done) | (simp [*];done)),H',⟨Nat.le_refl _⟩,by repeat (first | exact Drawn0.refl _ | apply Drawn0.step)⟩
    case round =>
     clear H'
     try clear c1
     try clear p2
     try clear c3
     try clear c5
     try clear c5b0
     try clear c6
     try clear p2
     obtain ⟨x20_2,rfl,HA,HK2,⟨m2,rfl⟩⟩ := hrel
     cases gk with
     | zero => exact absurd HA.out (by simp [qqq.l0])
     | succ k2 =>
      have H := HA.out
      clear HA
      simp only [qqq.l0] at H
      by_cases c7 : x20_2 < (a0.size : Int)
      ·rw [if_pos c7] at H
       have c7b0 : decide (x20_2 < (a0.size : Int)) = true := decide_eq_true c7
       clear c7
       by_cases c8 : 0 ≤ x20_2
       ·rw [if_pos c8] at H
        have c8b0 : decide (0 ≤ x20_2) = true := decide_eq_true c8
        clear c8
        by_cases c9 : x20_2 < (a0.size : Int)
        ·rw [if_pos c9] at H
         have c9b0 : decide (x20_2 < (a0.size : Int)) = true := decide_eq_true c9
         clear c9
         by_cases c11 : (bt a0 x20_2) < 32
         ·rw [if_pos c11] at H
          have c11b0 : decide ((bt a0 x20_2) < 32) = true := decide_eq_true c11
          clear c11
          obtain rfl := Option.some.inj H
          have p10 : 0 ≤ (x20_2 : Int) := of_decide_eq_true (by assumption)
          have q10 : x20_2 < (a0.size : Int) := of_decide_eq_true (by assumption)
          have hx10 := bt_at a0 x20_2
          replace p10 := eq_true p10
          replace q10 := eq_true q10
          go_wp2
          go_ret
          exact ⟨by first | rfl | (simp;done) | (simp [*];done),by repeat (first | exact Drawn0.refl _ | apply Drawn0.step)⟩
         ·rw [if_neg c11] at H
          have c11b0 : decide ((bt a0 x20_2) < 32) = false := decide_eq_false c11
          clear c11
          by_cases c13 : (bt a0 x20_2) > 126
          ·rw [if_pos c13] at H
           have c13b0 : decide (126 < (bt a0 x20_2)) = true := decide_eq_true c13
           clear c13
           obtain rfl := Option.some.inj H
           have p10 : 0 ≤ (x20_2 : Int) := of_decide_eq_true (by assumption)
           have q10 : x20_2 < (a0.size : Int) := of_decide_eq_true (by assumption)
           have hx10 := bt_at a0 x20_2
           replace p10 := eq_true p10
           replace q10 := eq_true q10
           have p12 : 0 ≤ (x20_2 : Int) := of_decide_eq_true (by assumption)
           have q12 : x20_2 < (a0.size : Int) := of_decide_eq_true (by assumption)
           have hx12 := bt_at a0 x20_2
           replace p12 := eq_true p12
           replace q12 := eq_true q12
           go_wp2
           go_ret
           exact ⟨by first | rfl | (simp;done) | (simp [*];done),by repeat (first | exact Drawn0.refl _ | apply Drawn0.step)⟩
          ·rw [if_neg c13] at H
           have c13b0 : decide (126 < (bt a0 x20_2)) = false := decide_eq_false c13
           clear c13
           have H' := qq.mk H
           clear H
           have p10 : 0 ≤ (x20_2 : Int) := of_decide_eq_true (by assumption)
           have q10 : x20_2 < (a0.size : Int) := of_decide_eq_true (by assumption)
           have hx10 := bt_at a0 x20_2
           replace p10 := eq_true p10
           replace q10 := eq_true q10
           have p12 : 0 ≤ (x20_2 : Int) := of_decide_eq_true (by assumption)
           have q12 : x20_2 < (a0.size : Int) := of_decide_eq_true (by assumption)
           have hx12 := bt_at a0 x20_2
           replace p12 := eq_true p12
           replace q12 := eq_true q12
           go_wp2
           go_roundg k2
           case measure => have := HJ3.out;have := HK2.out;omega
           case rel => exact ⟨(wrap64 (x20_2 + 1)),(by first | rfl | (simp;done) | (simp [*];done)),H',⟨by have := HJ3.out;have := HK2.out;omega⟩,by repeat (first | exact Drawn0.refl _ | apply Drawn0.step)⟩
        ·rw [if_neg c9] at H
         exact absurd H (by simp)
       ·rw [if_neg c8] at H
        exact absurd H (by simp)
      ·rw [if_neg c7] at H
       have c7b0 : decide (x20_2 < (a0.size : Int)) = false := decide_eq_false c7
       clear c7
       obtain rfl := Option.some.inj H
       go_wp2
       go_ret
       exact ⟨by first | rfl | (simp;done) | (simp [*];done),by repeat (first | exact Drawn0.refl _ | apply Drawn0.step)⟩
end Go.Proofs.Ytccbjchlcelkgaa.Pr
namespace Go.Proofs.Ytccbjchlcelkgaa.Pr
open Go.RowKit Go.Proofs.YtccbjchlcelkgaaW.PrintWords Go.Proofs.YtccbjchlcelkgaaW.PrintLast Go.Proofs.YtccbjchlcelkgaaW.PrintMore
attribute [local go_sem] max2_int min2_int max_two min_two max_three min_three max_four min_four
set_option linter.unusedVariables false
set_option linter.unusedSimpArgs false
def xw.f (k : Nat) (a0_0 : ByteArray) (a0_1 : ByteArray) (a1 : Int) : Option (Bool) := (wj.f k a0_0).bind fun t102 => (if t102 = true then ((qqq.f k a0_1 1 a1).bind fun t103 => (some t103)) else (some false))
theorem xw.mono : ∀ a0 a1 a2 k,LeO (xw.f k a0 a1 a2) (xw.f (k + 1) a0 a1 a2) := by
 intro a0 a1 a2 k
 unfold xw.f
 repeat' first
   | (with_reducible exact wj.mono _ _)
   | (with_reducible exact qqq.mono _ _ _ _)
   | (with_reducible exact LeO.refl _)
   | (with_reducible exact LeO.none _)
   | (with_reducible refine LeO.ite ?_ ?_)
   | (with_reducible refine LeO.bind ?_ (fun _ => ?_))
   | exact wj.mono _ _
   | exact qqq.mono _ _ _ _
   | exact LeO.none _
   | refine LeO.ite ?_ ?_
   | refine LeO.bind ?_ (fun _ => ?_)
set_option maxHeartbeats 8000000 in
set_option maxRecDepth 100000 in
theorem xw.calls (k : Nat) (a0_0 : ByteArray) (a0_1 : ByteArray) (a1 : Int) (r : Bool) (w : World) (h : xw.f k a0_0 a0_1 a1 = some r) :
  Calls Try.prog 146 #[.agg #[.string a0_0,.string a0_1],.int .i64 a1] w fun e w' => e = .returned (.bool r) ∧ Below w.heap.size w w' := by
 have hu122 := Try.underlying122
 have HB := qq.mk (Below.refl w.heap.size w)
 have H : ((wj.f k a0_0).bind fun t102 => (if t102 = true then ((qqq.f k a0_1 1 a1).bind fun t103 => (some t103)) else (some false))) = some r := h
 clear h
 replace H := Option.bind_eq_some_iff.mp H
 obtain ⟨t102,A30,H⟩ := H
 replace H : (if t102 = true then ((qqq.f k a0_1 1 a1).bind fun t103 => (some t103)) else (some false)) = some r := H
 have A3 := qq.mk A30
 clear A30
 by_cases c4 : t102 = true
 ·subst c4
  have H1 : ((qqq.f k a0_1 1 a1).bind fun t103 => (some t103)) = some r := by rw [if_pos rfl] at H;exact H
  clear H
  have H := H1
  clear H1
  replace H := Option.bind_eq_some_iff.mp H
  obtain ⟨t103,A50,H⟩ := H
  replace H : (some t103) = some r := H
  have A5 := qq.mk A50
  clear A50
  obtain rfl := Option.some.inj H
  go_enter Try.func146,Try.ntmps146
  go_wp2_with (first | ((with_reducible refine gate_dst (N := 2) rfl ?_);refine box_event ?hg (N := 2) ?hd (cs := #[.string a0_0,.string a0_1]) (t := 122) ?hr ?_;(case hd => rfl);(case hg => rfl);(case hr => first | (go_simp;done) | (go_simp;rfl));intro gb101 hg w6 hbox hb;have n0_ := qq.mk (zv (by repeat (first | (with_reducible first | exact HB.out | apply qj | apply qz | apply qk) | exact HB.out)) hb);have n1_ := qq.mk (hbox);have n2_ := qq.mk ((by rw [hg];exact (zw (by repeat (first | (with_reducible first | exact HB.out | apply qj | apply qz | apply qk) | exact HB.out))) : w.heap.size ≤ gb101));have n3_ := qq.mk ((by rw [hg];exact (zw (by repeat (first | (with_reducible first | exact HB.out | apply qj | apply qz | apply qk) | exact HB.out))) : w.heap.size ≤ gb101));clear HB;have HB := n0_;have BK101 := n1_;have GW101 := n2_;have GE101 := n3_;clear n0_ n1_ n2_ n3_;clear hb hbox hg;have hcz7_0 : w6.cell? ⟨gb101,0,none⟩ = some (.string a0_0) := (qw BK101.out 0).trans rfl;have hcz7_1 : w6.cell? ⟨gb101,1,none⟩ = some (.string a0_1) := (qw BK101.out 1).trans rfl;have hfz7_0 := qv BK101.out 0;have hfz7_1 := qv BK101.out 1) | ((with_reducible refine kz (f := 129) rfl ?_);refine goesL_ (some 7) rfl rfl Try.func129 (by kernel_rfl) rfl #[.string a0_0] rfl (by (try simp only [List.map_toArray,List.map_cons,List.map_nil]);first | done | rfl | (simp only [List.length_drop,List.length_take];rfl)) ?_;(with_reducible refine (wj.calls k a0_0 true _ A3.out).mono ?_);rintro e w' ⟨rfl,⟨nd,rfl⟩⟩;refine ⟨_,rfl,?_⟩) | (go_at_call 128;(with_reducible refine (qqq.calls k a0_1 1 a1 t103 _ A5.out).mono ?_);rintro e w' ⟨rfl,⟨nd,rfl⟩⟩))
  go_ret
  exact ⟨by first | rfl | (simp [*,jx,jw] <;> rfl),by repeat (first | (with_reducible first | exact HB.out | apply qj | apply qz | apply qk | refine qx ?_ GE101.out) | exact HB.out)⟩
 ·replace c4 := Bool.eq_false_iff.mpr c4
  subst c4
  have H1 : (some false) = some r := by rw [if_neg (show ¬ (false = true) by decide)] at H;exact H
  clear H
  have H := H1
  clear H1
  obtain rfl := Option.some.inj H
  go_enter Try.func146,Try.ntmps146
  go_wp2_with (first | ((with_reducible refine gate_dst (N := 2) rfl ?_);refine box_event ?hg (N := 2) ?hd (cs := #[.string a0_0,.string a0_1]) (t := 122) ?hr ?_;(case hd => rfl);(case hg => rfl);(case hr => first | (go_simp;done) | (go_simp;rfl));intro gb101 hg w8 hbox hb;have n0_ := qq.mk (zv (by repeat (first | (with_reducible first | exact HB.out | apply qj | apply qz | apply qk) | exact HB.out)) hb);have n1_ := qq.mk (hbox);have n2_ := qq.mk ((by rw [hg];exact (zw (by repeat (first | (with_reducible first | exact HB.out | apply qj | apply qz | apply qk) | exact HB.out))) : w.heap.size ≤ gb101));have n3_ := qq.mk ((by rw [hg];exact (zw (by repeat (first | (with_reducible first | exact HB.out | apply qj | apply qz | apply qk) | exact HB.out))) : w.heap.size ≤ gb101));clear HB;have HB := n0_;have BK101 := n1_;have GW101 := n2_;have GE101 := n3_;clear n0_ n1_ n2_ n3_;clear hb hbox hg;have hcz9_0 : w8.cell? ⟨gb101,0,none⟩ = some (.string a0_0) := (qw BK101.out 0).trans rfl;have hcz9_1 : w8.cell? ⟨gb101,1,none⟩ = some (.string a0_1) := (qw BK101.out 1).trans rfl;have hfz9_0 := qv BK101.out 0;have hfz9_1 := qv BK101.out 1) | ((with_reducible refine kz (f := 129) rfl ?_);refine goesL_ (some 7) rfl rfl Try.func129 (by kernel_rfl) rfl #[.string a0_0] rfl (by (try simp only [List.map_toArray,List.map_cons,List.map_nil]);first | done | rfl | (simp only [List.length_drop,List.length_take];rfl)) ?_;(with_reducible refine (wj.calls k a0_0 false _ A3.out).mono ?_);rintro e w' ⟨rfl,⟨nd,rfl⟩⟩;refine ⟨_,rfl,?_⟩))
  go_ret
  exact ⟨by first | rfl | (simp [*,jx,jw] <;> rfl),by repeat (first | (with_reducible first | exact HB.out | apply qj | apply qz | apply qk | refine qx ?_ GE101.out) | exact HB.out)⟩
end Go.Proofs.Ytccbjchlcelkgaa.Pr
namespace Go.Proofs.Ytccbjchlcelkgaa.Pr
open Go.RowKit Go.Proofs.YtccbjchlcelkgaaW.PrintWords Go.Proofs.YtccbjchlcelkgaaW.PrintLast Go.Proofs.YtccbjchlcelkgaaW.PrintMore
attribute [local go_sem] max2_int min2_int max_two min_two max_three min_three max_four min_four
set_option linter.unusedVariables false
set_option linter.unusedSimpArgs false
def wz.f (k : Nat) (a0_0 : ByteArray) (a0_1 : ByteArray) : Option (Bool) := (xw.f k a0_0 a0_1 60).bind fun t102 => (some (!t102))
theorem wz.mono : ∀ a0 a1 k,LeO (wz.f k a0 a1) (wz.f (k + 1) a0 a1) := by
 intro a0 a1 k
 unfold wz.f
 repeat' first
   | (with_reducible exact xw.mono _ _ _ _)
   | (with_reducible exact LeO.refl _)
   | (with_reducible exact LeO.none _)
   | (with_reducible refine LeO.ite ?_ ?_)
   | (with_reducible refine LeO.bind ?_ (fun _ => ?_))
   | exact xw.mono _ _ _ _
   | exact LeO.none _
   | refine LeO.ite ?_ ?_
   | refine LeO.bind ?_ (fun _ => ?_)
set_option maxHeartbeats 8000000 in
set_option maxRecDepth 100000 in
theorem wz.calls (k : Nat) (a0_0 : ByteArray) (a0_1 : ByteArray) (r : Bool) (w : World) (h : wz.f k a0_0 a0_1 = some r) :
  Calls Try.prog 145 #[.agg #[.string a0_0,.string a0_1]] w fun e w' => e = .returned (.bool r) ∧ Below w.heap.size w w' := by
 have hu122 := Try.underlying122
 have HB := qq.mk (Below.refl w.heap.size w)
 have H : ((xw.f k a0_0 a0_1 60).bind fun t102 => (some (!t102))) = some r := h
 clear h
 replace H := Option.bind_eq_some_iff.mp H
 obtain ⟨t102,A20,H⟩ := H
 replace H : (some (!t102)) = some r := H
 have A2 := qq.mk A20
 clear A20
 obtain rfl := Option.some.inj H
 go_enter Try.func145,Try.ntmps145
 go_wp2_with (first | ((with_reducible refine gate_dst (N := 1) rfl ?_);refine box_event ?hg (N := 1) ?hd (cs := #[.string a0_0,.string a0_1]) (t := 122) ?hr ?_;(case hd => rfl);(case hg => rfl);(case hr => first | (go_simp;done) | (go_simp;rfl));intro gb101 hg w3 hbox hb;have n0_ := qq.mk (zv (by repeat (first | (with_reducible first | exact HB.out | apply qj | apply qz | apply qk) | exact HB.out)) hb);have n1_ := qq.mk (hbox);have n2_ := qq.mk ((by rw [hg];exact (zw (by repeat (first | (with_reducible first | exact HB.out | apply qj | apply qz | apply qk) | exact HB.out))) : w.heap.size ≤ gb101));have n3_ := qq.mk ((by rw [hg];exact (zw (by repeat (first | (with_reducible first | exact HB.out | apply qj | apply qz | apply qk) | exact HB.out))) : w.heap.size ≤ gb101));clear HB;have HB := n0_;have BK101 := n1_;have GW101 := n2_;have GE101 := n3_;clear n0_ n1_ n2_ n3_;clear hb hbox hg;have hcz4_0 : w3.cell? ⟨gb101,0,none⟩ = some (.string a0_0) := (qw BK101.out 0).trans rfl;have hcz4_1 : w3.cell? ⟨gb101,1,none⟩ = some (.string a0_1) := (qw BK101.out 1).trans rfl;have hfz4_0 := qv BK101.out 0;have hfz4_1 := qv BK101.out 1) | ((with_reducible refine kz (f := 146) rfl ?_);refine goesL_ (some 4) rfl rfl Try.func146 (by kernel_rfl) rfl #[.agg #[.string a0_0,.string a0_1],.int .i64 60] rfl (by (try simp only [List.map_toArray,List.map_cons,List.map_nil]);first | done | rfl | (simp only [List.length_drop,List.length_take];rfl)) ?_;(with_reducible refine (xw.calls k a0_0 a0_1 60 t102 _ A2.out).mono ?_);rintro e w5 ⟨rfl,hb⟩;refine ⟨_,rfl,?_⟩;have n0_ := qq.mk (kw (g := gb101) (o := .cells #[.string a0_0,.string a0_1] 122 (0,0)) (by (with_reducible repeat (first | refine zz ?_ _ | refine zj ?_ | refine zq ?_ _));exact BK101.out) hb);have n1_ := qq.mk (zv (by repeat (first | (with_reducible first | exact HB.out | apply qj | apply qz | apply qk | refine qx ?_ GE101.out) | exact HB.out)) hb);clear BK101;clear HB;have BK101 := n0_;have HB := n1_;clear n0_ n1_;(try clear hb);(try clear hb2);(try clear hk);(try clear hi)))
 go_ret
 exact ⟨by first | rfl | (simp [*,jx,jw] <;> rfl),by repeat (first | (with_reducible first | exact HB.out | apply qj | apply qz | apply qk | refine qx ?_ GE101.out) | exact HB.out)⟩
end Go.Proofs.Ytccbjchlcelkgaa.Pr
