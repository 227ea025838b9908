/- Printed texts, walks and plain facts that the law FnPasswords leans on, joined. -/
import Derived.Test.YtgolcojhnklfdaaFullFnPasswordsA
import Derived.ProofKit
import Derived.OpenShut
import Derived.ShutString
import Derived.ChangeOld
import Derived.Deep.Slices
import Derived.Lib.SmallJoins
import Derived.Test.YtgolcojhnklfdaaProg
import Derived.Below
import Derived.Deep.Draws
import Derived.Deep.AppendLies
import Derived.Maps.AppendAt
import Derived.OwnWalk
import Derived.Laws.BytesArg
import Derived.Laws.MakeOwn
import Derived.Laws.OwnMore
import Derived.Deep.OwnRows
import Derived.Tactics
import Derived.Lib.ConvBytes
import Derived.Laws.Slices
import Derived.WalkKit
import Derived.KernelRfl
import Derived.RowKit3
import Derived.Deep.LoopGhost
import Derived.Deep.QuietTactic
import Derived.BigQuiet
import Derived.WideLaws
import Derived.Deep.DeepCutAuto
import Derived.Deep.CutBlock
import Derived.Deep.RegionHeld3
import Derived.Laws.Rows
import Derived.Lib.AppendStr
import Derived.ArgAppend
import Derived.Laws.IdiomCopy
import Derived.OrdersHeld
import Derived.Laws.BitsLemmas
import Derived.RowKit
import Derived.StillTailTactics
import Derived.Lib.SliceRun
import Derived.WalkSpells
import Derived.Shelf.Strings.Search3
import Derived.Shelf.Abstract
namespace Go.Proofs.Ytgolcojhnklfdaa.Read
open Go.RowKit Go.ChangeShapes Go.WideShapes Go.Deep Go.Proofs.YtgolcojhnklfdaaW.PrintWords
set_option linter.unusedVariables false
def Tells (P : Program) (t : TypeId) {α : Type} (d : Kd α) (ok : α → Prop) : Prop :=
 P.cellsOf t = d.sz ∧ ∀ (H : Type) (enc : TypeId × Value → H) (w : World) (sp : Nat → Bool) (fuel : Nat) (cs : List Value) (x : DataW H × List MemPlace),
  DataW.trod enc P w 0 sp true fuel t cs = some x → ∃ a : α,d.K w a cs ∧ ok a
theorem tells_int {P : Program} {t : TypeId} {k : IntKind} (ht : P.underlying t = some (.int k)) (hc : P.cellsOf t = 1) : Tells P t (Kd.int k) (fun n => (Lit.int k n).wf = true) :=
 ⟨hc,fun H enc w sp fuel cs x h => by
  obtain ⟨n,rfl,_,hw⟩ := DataW.trod_int ht h
  exact ⟨n,rfl,hw⟩⟩
theorem tells_slice {P : Program} {t e : TypeId} {α : Type} {d : Kd α} {ok : α → Prop} (ht : P.underlying t = some (.slice e)) (hc : P.cellsOf t = 1) (he : Tells P e d ok) :
  Tells P t (Kd.slice e d) (fun xs => xs.length ≤ 9223372036854775807 ∧ ∀ x ∈ xs,ok x) := by
 refine ⟨hc,fun H enc w sp fuel cs x h => ?_⟩
 rcases open_slice ht h with ⟨rfl,_⟩ | ⟨a,len,cap,m,n,D,Pl,rfl,_,hl,hm,hmm,_,hx⟩
 ·exact ⟨[],⟨none,0,rfl,by simp,Kd.C_nil d w⟩,by simp,by simp⟩
 ·have hlm : len ≤ m := by rw [hmm];split <;> omega
  have hmax : len ≤ 9223372036854775807 := by unfold maxLen at hm;omega
  have key : ∀ j,j ≤ len → ∃ xs : List α,xs.length = j ∧ (∀ x ∈ xs,ok x) ∧ ∀ i p,xs[i]? = some p → ∃ c,c.length = d.sz ∧ d.K w p c ∧ ∀ k u,c[k]? = some u → w.cell? (a.add (i * d.sz + k)) = some u := by
   intro j
   induction j with
   | zero => exact fun _ => ⟨[],rfl,by simp,by simp⟩
   | succ j ih =>
    intro hj
    obtain ⟨xs,hxl,hok,hc⟩ := ih (by omega)
    obtain ⟨cs',h1,h2⟩ := hx j (by omega)
    obtain ⟨y,hy,hoky⟩ := he.2 H enc w sp n cs' _ h2
    obtain ⟨_,hcl,hcc⟩ := World.cells?_some h1
    refine ⟨xs ++ [y],by simp [hxl],fun x hx => ?_,fun i p hp => ?_⟩
    ·rcases List.mem_append.1 hx with hx | hx
     ·exact hok x hx
     ·rw [List.mem_singleton.1 hx];exact hoky
    ·rcases Nat.lt_or_ge i xs.length with hi | hi
     ·rw [List.getElem?_append_left hi] at hp
      exact hc i p hp
     ·rw [List.getElem?_append_right hi] at hp
      have hi' : i = xs.length := by
       rcases Nat.eq_zero_or_pos (i - xs.length) with h0 | h0
       ·omega
       ·rw [List.getElem?_eq_none (by simp;omega)] at hp;cases hp
      subst hi'
      simp only [Nat.sub_self,List.getElem?_cons_zero,Option.some.injEq] at hp
      subst hp
      refine ⟨cs',by rw [hcl,he.1],hy,fun k u hu => ?_⟩
      have hk : k < P.cellsOf e := by
       rcases Nat.lt_or_ge k cs'.length with h | h
       ·omega
       ·rw [List.getElem?_eq_none h] at hu;cases hu
      have := hcc k hk
      rw [Go.Addr.add_add,he.1,← hxl] at this
      rw [this];exact hu
  obtain ⟨xs,hxl,hok,hc⟩ := key len (Nat.le_refl _)
  refine ⟨xs,⟨some a,cap,by rw [hxl],by omega,?_⟩,by omega,hok⟩
  exact ⟨rfl,by omega,fun _ => ⟨a,rfl,hc⟩⟩
theorem tells_weaken {P : Program} {t : TypeId} {α : Type} {d : Kd α} {ok ok' : α → Prop} (h : Tells P t d ok) (hw : ∀ a,ok a → ok' a) : Tells P t d ok' :=
 ⟨h.1,fun H enc w sp fuel cs x hx => let ⟨a,ha,ho⟩ := h.2 H enc w sp fuel cs x hx;⟨a,ha,hw a ho⟩⟩
theorem tells_arg {P : Program} {t : TypeId} {α : Type} {d : Kd α} {ok : α → Prop} (h : Tells P t d ok) {H : Type} {enc : TypeId × Value → H} {w : World} {sp : Nat → Bool} {v : Value} {D : DataW H} {ps : List MemPlace}
  (hv : DataW.Trod enc P w 0 sp true t v D ps) : ∃ a,d.K w a v.cells.toList ∧ ok a := by
 obtain ⟨fuel,hf⟩ := hv
 exact h.2 H enc w sp fuel _ _ hf
theorem byte_bounds {n : Int} (h : (Lit.int .u8 n).wf = true) : 0 ≤ n ∧ n ≤ 255 := by
 simpa [Lit.wf,IntKind.min,IntKind.max,IntKind.signed,IntKind.bits] using h
def okB (n : Int) : Prop := 0 ≤ n ∧ n ≤ 255
def okL {α : Type} (ok : α → Prop) (xs : List α) : Prop := xs.length ≤ 9223372036854775807 ∧ ∀ x ∈ xs,ok x
theorem tellsB {P : Program} {t : TypeId} (ht : P.underlying t = some (.int .u8)) (hc : P.cellsOf t = 1) : Tells P t (Kd.int .u8) okB := tells_weaken (tells_int ht hc) fun _ h => byte_bounds h
theorem tellsL {P : Program} {t e : TypeId} {α : Type} {d : Kd α} {ok : α → Prop} (ht : P.underlying t = some (.slice e)) (hc : P.cellsOf t = 1) (he : Tells P e d ok) : Tells P t (Kd.slice e d) (okL ok) := tells_slice ht hc he
theorem arg_slice {P : Program} {t e : TypeId} {α : Type} {d : Kd α} {ok : α → Prop} (ht : P.underlying t = some (.slice e)) (h : Tells P t (Kd.slice e d) (okL ok)) {H : Type} {enc : TypeId × Value → H} {w w2 : World} {r : Reach} {base : Nat} {sp : Nat → Bool} {v : Value} {D : DataW H} {ps : List MemPlace}
  (ho : Value.okWide P w2 r base t v) (hv : DataW.Trod enc P w 0 sp true t v D ps) : ∃ A c xs,v = .slice A xs.length c ∧ xs.length ≤ c ∧ d.C w A xs.length xs ∧ okL ok xs := by
 obtain ⟨a,l,c,rfl⟩ := okWide_slice ht ho
 obtain ⟨xs,⟨A,c',hc,hl,hC⟩,hok⟩ := tells_arg h hv
 simp only [Value.cells,List.cons.injEq,and_true,Value.slice.injEq] at hc
 obtain ⟨rfl,rfl,rfl⟩ := hc
 exact ⟨_,_,xs,rfl,hl,hC,hok⟩
end Go.Proofs.Ytgolcojhnklfdaa.Read
namespace Go.Proofs.Ytgolcojhnklfdaa.Pr
open Go.RowKit Go.Proofs.YtgolcojhnklfdaaW.PrintWords Go.Proofs.YtgolcojhnklfdaaW.PrintLast Go.Proofs.YtgolcojhnklfdaaW.PrintMore
attribute [local go_sem] max2_int min2_int max_two min_two max_three min_three max_four min_four
set_option linter.unusedVariables false
set_option linter.unusedSimpArgs false
def errW : Option Int → Value
 | none => .nilIface
 | some c => .iface 0 (.int .i64 c)
theorem kz : errW none = .nilIface := rfl
theorem jx (c : Int) : errW (some c) = .iface 0 (.int .i64 c) := rfl
theorem info3 : (Try.prog.info? 3).map (fun i => (i.zero,i.size,i.bytes)) = some (some (.int .i64 0),1,8) := by kernel_rfl
theorem info5 : (Try.prog.info? 5).map (fun i => (i.zero,i.size,i.bytes)) = some (some (.int .u8 0),1,1) := by kernel_rfl
theorem info9 : (Try.prog.info? 9).map (fun i => (i.zero,i.size,i.bytes)) = some (some (.string ⟨#[]⟩),1,16) := by kernel_rfl
theorem info82 : (Try.prog.info? 82).map (fun i => (i.zero,i.size,i.bytes)) = some (some (.agg #[(.slice none 0 0),(.int .i64 0),(.slice none 0 0)]),3,56) := by kernel_rfl
structure S102 where
 f0 : (List Int)
 f1 : Int
 f2 : (List Int)
structure S82 where
 f0 : (List Int)
 f1 : Int
 f2 : (List Int)
def z82 : S82 := ⟨([] : List Int),(0 : Int),([] : List Int)⟩
def k82 : Kd S82 := Kd.iso (Kd.pair (Kd.slice 5 (Kd.int .u8)) (Kd.pair (Kd.int .i64) (Kd.slice 5 (Kd.int .u8)))) (fun x : S82 => (x.f0,x.f1,x.f2))
theorem k82_open {w : World} {x : S82} {cs : List Value} (h : k82.K w x cs) : ∃ A0 c0 A2 c2,cs = [.slice A0 x.f0.length c0,.int .i64 x.f1,.slice A2 x.f2.length c2] ∧ x.f0.length ≤ c0 ∧ (Kd.int .u8).C w A0 x.f0.length x.f0 ∧ x.f2.length ≤ c2 ∧ (Kd.int .u8).C w A2 x.f2.length x.f2 := by
 obtain ⟨_,_,rfl,⟨A0,c0,rfl,l0,g0⟩,⟨_,_,rfl,rfl,⟨A2,c2,rfl,l2,g2⟩⟩⟩ := h
 exact ⟨A0,c0,A2,c2,rfl,l0,g0,l2,g2⟩
theorem k82_mk (w : World) (x : S82) {A0 : Option Addr} {c0 : Nat} (l0 : x.f0.length ≤ c0) (g0 : (Kd.int .u8).C w A0 x.f0.length x.f0) {A2 : Option Addr} {c2 : Nat} (l2 : x.f2.length ≤ c2) (g2 : (Kd.int .u8).C w A2 x.f2.length x.f2) : k82.K w x [.slice A0 x.f0.length c0,.int .i64 x.f1,.slice A2 x.f2.length c2] := ⟨[.slice A0 x.f0.length c0],[.int .i64 x.f1,.slice A2 x.f2.length c2],rfl,⟨A0,c0,rfl,l0,g0⟩,⟨[.int .i64 x.f1],[.slice A2 x.f2.length c2],rfl,rfl,⟨A2,c2,rfl,l2,g2⟩⟩⟩
theorem k82_mkM (w : World) (base : Nat) (ok : Nat → Prop) (x : S82) {v0 : Value} (g0 : (Kd.int .u8).R 5 w base ok v0 x.f0) {v2 : Value} (g2 : (Kd.int .u8).R 5 w base ok v2 x.f2) : k82.M w base ok x [v0,.int .i64 x.f1,v2] := ⟨[v0],[.int .i64 x.f1,v2],rfl,⟨v0,rfl,g0⟩,⟨[.int .i64 x.f1],[v2],rfl,rfl,⟨v2,rfl,g2⟩⟩⟩
theorem k82_mkF (W : World) (ok : Nat → Prop) (x : S82) {A0 : Option Addr} {c0 : Nat} (l0 : x.f0.length ≤ c0) (g0 : Kd.F (Kd.int .u8) W ok A0 x.f0.length x.f0) {A2 : Option Addr} {c2 : Nat} (l2 : x.f2.length ≤ c2) (g2 : Kd.F (Kd.int .u8) W ok A2 x.f2.length x.f2) : Kd.FK k82 W ok x [.slice A0 x.f0.length c0,.int .i64 x.f1,.slice A2 x.f2.length c2] := fun W2 hW => k82_mk W2 x l0 (g0 W2 hW) l2 (g2 W2 hW)
def wx (xs : List S82) (i : Int) : S82 := xs.getD i.toNat z82
theorem at_T82 {w : World} {A : Option Addr} {n : Nat} {xs : List S82} (h : Kd.C k82 w A n xs) (i : Int) (h0 : 0 ≤ i) (h1 : i < n) : ∃ ad A0 c0 A2 c2,A = some ad ∧ w.cell? (ad.add (i.toNat * 3)) = some (.slice A0 (wx xs i).f0.length c0) ∧ w.cell? ⟨(ad.add (i.toNat * 3)).block,(ad.add (i.toNat * 3)).off + 1,none⟩ = some (.int .i64 (wx xs i).f1) ∧ w.cell? ⟨(ad.add (i.toNat * 3)).block,(ad.add (i.toNat * 3)).off + 2,none⟩ = some (.slice A2 (wx xs i).f2.length c2) ∧ (wx xs i).f0.length ≤ c0 ∧ (Kd.int .u8).C w A0 (wx xs i).f0.length (wx xs i).f0 ∧ (wx xs i).f2.length ≤ c2 ∧ (Kd.int .u8).C w A2 (wx xs i).f2.length (wx xs i).f2 := by
 obtain ⟨ad,c,e,_,hK,hc0⟩ := Kd.C_get h z82 i h0 h1
 have hc : ∀ j u,c[j]? = some u → w.cell? (ad.add (i.toNat * 3 + j)) = some u := hc0
 obtain ⟨A0,c0,A2,c2,rfl,l0,g0,l2,g2⟩ := k82_open hK
 exact ⟨ad,A0,c0,A2,c2,e,hc 0 _ rfl,by rw [← add_field _ _ 1 (by omega)];exact hc 1 _ rfl,by rw [← add_field _ _ 2 (by omega)];exact hc 2 _ rfl,l0,g0,l2,g2⟩
structure S53 where
 f0 : Int
 f1 : Int
 f2 : (List ByteArray)
 f3 : Int
structure S70 where
 f0 : Int
 f1 : Bool
structure S150 where
 f0 : Int
 f1 : Int
 f2 : ByteArray
 f3 : ByteArray
structure S152 where
 f0 : ByteArray
 f1 : Int
 f2 : ByteArray
 f3 : S150
def qqj.f (a0 : Int) : Option (List Int) := some (([(a0) % 256,(a0 / 256) % 256,(a0 / 65536) % 256,(a0 / 16777216) % 256] : List Int))
set_option maxHeartbeats 8000000 in
set_option maxRecDepth 100000 in
theorem qqj.calls (a0 : Int) (r : List Int) (w : World) (h : qqj.f a0 = some r) :
  Calls Try.prog 120 #[.int .i64 a0] w fun e w' => ∃ v0_ : Value,e = .returned (v0_) ∧ Kd.R (Kd.int .u8) 5 w' w.heap.size (fun _ => True) v0_ r ∧ Below w.heap.size w w' := by
 have HB := qq.mk (Below.refl w.heap.size w)
 have H : (some (([(a0) % 256,(a0 / 256) % 256,(a0 / 65536) % 256,(a0 / 16777216) % 256] : List Int))) = some r := h
 clear h
 obtain ⟨y101,hy101⟩ : ∃ y_ : List Int,y_ = (([(a0) % 256,(a0 / 256) % 256,(a0 / 65536) % 256,(a0 / 16777216) % 256] : List Int)) := ⟨_,rfl⟩
 replace H : (some y101) = some r := by first | (rw [hy101];with_reducible exact H) | (have H2_ := (Option.bind_some _ _).symm.trans H;rw [hy101];with_reducible exact H2_) | (have H2_ := (Option.bind_some _ _).symm.trans H;with_reducible exact H2_) | with_reducible exact H | (rw [hy101];exact H) | exact H
 have Ny101 := qq.mk hy101
 clear hy101
 obtain rfl := Option.some.inj H
 go_enter Try.func120,Try.ntmps120
 go_wp2_with (first | ((with_reducible refine gate_dst (N := 14) rfl ?_);refine Kd.R_lit (Kd.int .u8) _ 5 ?hg (N := 14) ?hd (xs := ([(a0) % 256,(a0 / 256) % 256,(a0 / 65536) % 256,(a0 / 16777216) % 256] : List Int)) (inner := [.int .u8 ((a0) % 256),.int .u8 ((a0 / 256) % 256),.int .u8 ((a0 / 65536) % 256),.int .u8 ((a0 / 16777216) % 256)]) (ok := fun _ => True) (okp := fun _ => True) ?hr ?hp (fun _ hk => hk) trivial (Below.refl _ _) (Nat.le_refl _) (by simp) ?_;(case hd => rfl);(case hg => rfl);(case hr => first | (go_simp;done) | (go_simp;rfl));(case hp => exact (Reps.one (show Kd.M (Kd.int .u8) _ _ _ ((a0) % 256) [.int .u8 ((a0) % 256)] from rfl) (Reps.one (show Kd.M (Kd.int .u8) _ _ _ ((a0 / 256) % 256) [.int .u8 ((a0 / 256) % 256)] from rfl) (Reps.one (show Kd.M (Kd.int .u8) _ _ _ ((a0 / 65536) % 256) [.int .u8 ((a0 / 65536) % 256)] from rfl) (Reps.one (show Kd.M (Kd.int .u8) _ _ _ ((a0 / 16777216) % 256) [.int .u8 ((a0 / 16777216) % 256)] from rfl) (Reps.none _ _))))));intro v102 w2 ho3 hb hg_ hnew_;clear hg_ hnew_;(first | rw [← Ny101.out] at ho3 | (simp only [Int.reduceToNat] at ho3;rw [← Ny101.out] at ho3));have n0_ := qq.mk (Kd.R_lower ho3 (zw (by repeat (first | (with_reducible first | exact HB.out | apply qj | apply qz | apply qk) | exact HB.out))));have n1_ := qq.mk (zv (by repeat (first | (with_reducible first | exact HB.out | apply qj | apply qz | apply qk) | exact HB.out)) hb);clear HB;have HO103 := n0_;have HB := n1_;clear n0_ n1_;clear hb ho3))
 go_ret
 exact ⟨_,by first | rfl | (simp [*,kz,jx] <;> rfl),by (with_reducible repeat (first | apply Kd.jq | apply Kd.zx | apply Kd.jz));exact HO103.out,by repeat (first | (with_reducible first | exact HB.out | apply qj | apply qz | apply qk) | exact HB.out)⟩
def mulT : List Int := [1103515245,69069,1664525,22695477]
def stepAt (a : List Int) (x : Int) (i : Nat) : List Int := a.set i ((a.getD i 0 * mulT.getD i 0 + x + 1 + a.getD ((i+1)%4) 0) % 2147483579)
def mixN (a : List Int) (x : Int) : Nat → List Int
 | 0 => a
 | i+1 => stepAt (mixN a x i) x i
structure OnlyB (w w' : World) (g : Nat) : Prop where
 os : w'.os = w.os
 tape : w'.tape = w.tape
 output : w'.output = w.output
 size : w'.heap.size = w.heap.size
 block : ∀ k,k ≠ g → w'.heap[k]? = w.heap[k]?
theorem OnlyB.refl (w : World) (g : Nat) : OnlyB w w g := ⟨rfl,rfl,rfl,rfl,fun _ _ => rfl⟩
theorem OnlyB.drew {w w' : World} {g : Nat} (h : OnlyB w w' g) : OnlyB w w'.drew g := ⟨h.os,h.tape,h.output,h.size,h.block⟩
theorem OnlyB.set {w w' : World} {g : Nat} (h : OnlyB w w' g) (j : Nat) (u : Value) : OnlyB w (w'.setCell ⟨g,j,none⟩ u) g :=
 ⟨h.os,h.tape,h.output,by simpa [World.setCell] using h.size,fun k hk => (Below.heap_setCell w' ⟨g,j,none⟩ u k hk).trans (h.block k hk)⟩
theorem mulOk : ∀ j : Nat,j < 4 → 0 ≤ mulT.getD j 0 ∧ mulT.getD j 0 < 2147483579 := by decide
theorem mix_len (l : List Int) (x : Int) (k : Nat) : (mixN l x k).length = l.length := by
 induction k with
 | zero => rfl
 | succ k ih => simp [mixN,stepAt,ih]
theorem prod_bd {a b : Int} (ha : 0 ≤ a) (ha2 : a < 2147483579) (hb : 0 ≤ b) (hb2 : b < 2147483579) : 0 ≤ a * b ∧ a * b ≤ 4611685717779682084 := by
 refine ⟨Int.mul_nonneg ha hb,?_⟩
 have := Int.mul_le_mul (show a ≤ 2147483578 by omega) (show b ≤ 2147483578 by omega) hb (by omega)
 omega
theorem mix_bd (l : List Int) (x : Int) (hx : 0 ≤ x) (hl : l.length = 4) (hb : ∀ j,j < 4 → 0 ≤ l.getD j 0 ∧ l.getD j 0 < 2147483579) (k : Nat) (hk : k ≤ 4) : ∀ j,j < 4 → 0 ≤ (mixN l x k).getD j 0 ∧ (mixN l x k).getD j 0 < 2147483579 := by
 induction k with
 | zero => exact hb
 | succ k ih =>
  intro j hj
  have ih := ih (by omega)
  have hlen := mix_len l x k
  simp only [mixN,stepAt]
  by_cases e : j = k
  ·subst e
   rw [List.getD_eq_getElem?_getD,List.getElem?_set_self (by omega)]
   simp only [Option.getD_some]
   omega
  ·rw [List.getD_eq_getElem?_getD,List.getElem?_set_ne (by omega),← List.getD_eq_getElem?_getD]
   exact ih j hj
theorem nums_cell {w : World} {g : Nat} {l : List Int} {t : TypeId} (h : w.heap[g]? = some (.cells (nums .i64 l).toArray t (0,0))) (k : Nat) (hk : k < l.length) : w.cell? ⟨g,k,none⟩ = some (.int .i64 (l.getD k 0)) := by
 rw [qw h]
 simp [nums,List.getElem?_map,List.getElem?_eq_getElem hk,List.getD_eq_getElem?_getD]
set_option maxHeartbeats 1000000 in
set_option maxRecDepth 100000 in
theorem eat_calls (x : Int) (l : List Int) (hl : l.length = 4) (hb : ∀ j,j < 4 → 0 ≤ l.getD j 0 ∧ l.getD j 0 < 2147483579) (ga gm : Nat) (w : World) (hx0 : 0 ≤ x) (hx1 : x ≤ 255)
 (ha : w.heap[ga]? = some (.cells (nums .i64 l).toArray 140 (0,0))) (hm : w.heap[gm]? = some (.cells (nums .i64 mulT).toArray 140 (0,0))) (hne : ga ≠ gm) :
 Calls Try.prog 119 #[.int .u8 x,.pointer (some ⟨ga,0,none⟩),.pointer (some ⟨gm,0,none⟩)] w fun e w' => e = .returned (.tuple #[]) ∧ w'.heap[ga]? = some (.cells (nums .i64 (mixN l x 4)).toArray 140 (0,0)) ∧ OnlyB w w' ga := by
 have HL := qq.mk hl;have HB := qq.mk hb;have HA := qq.mk ha;have HM := qq.mk hm
 clear hl hb ha hm
 go_enter Try.func119,Try.ntmps119
 go_wp2
 go_loopw [5] (fun i wr => ∃ k : Nat,k ≤ 4 ∧ i = .int .i64 k ∧ qq (wr.heap[ga]? = some (.cells (nums .i64 (mixN l x k)).toArray 140 (0,0)) ∧ OnlyB w wr ga)) (fun i _ => 4 - (intOf i).toNat)
 case atStart => exact ⟨0,by omega,rfl,⟨HA.out,OnlyB.refl _ _⟩⟩
 case round =>
  obtain ⟨k,hk,rfl,HW⟩ := hrel
  by_cases hlt : k < 4
  ·obtain ⟨a,ea⟩ : ∃ a,a = mixN l x k := ⟨_,rfl⟩
   have hc1 := nums_cell HW.out.1 k (by rw [mix_len,HL.out];omega)
   have hc2 := nums_cell HW.out.1 ((k+1)%4) (by rw [mix_len,HL.out];omega)
   have hc3 := nums_cell ((HW.out.2.block gm (Ne.symm hne)).trans HM.out) k hlt
   have hf := qv HW.out.1 k
   have b1 := mix_bd l x hx0 HL.out HB.out k hk k hlt
   have b2 := mix_bd l x hx0 HL.out HB.out k hk ((k+1)%4) (by omega)
   have b3 := mulOk k hlt
   obtain ⟨p1,eP1⟩ : ∃ p,p = (mixN l x k).getD k 0 := ⟨_,rfl⟩
   obtain ⟨p2,eP2⟩ : ∃ p,p = (mixN l x k).getD ((k+1)%4) 0 := ⟨_,rfl⟩
   obtain ⟨p3,eP3⟩ : ∃ p,p = mulT.getD k 0 := ⟨_,rfl⟩
   rw [← eP1] at hc1 b1;rw [← eP2] at hc2 b2;rw [← eP3] at hc3 b3
   have b4 := prod_bd b1.1 b1.2 b3.1 b3.2
   have EP1 := qq.mk eP1;have EP2 := qq.mk eP2;have EP3 := qq.mk eP3;have EA := qq.mk ea
   clear eP1 eP2 eP3 ea
   go_wp2
   have e1 : IntKind.i64.wrap (p1 * p3) = p1 * p3 := IntWalk.i64_in _ (by omega)
   have e2 : IntKind.i64.wrap x = x := IntWalk.i64_in _ (by omega)
   have e3 : IntKind.i64.wrap (p1 * p3 + x) = p1 * p3 + x := IntWalk.i64_in _ (by omega)
   have e4 : IntKind.i64.wrap (p1 * p3 + x + 1) = p1 * p3 + x + 1 := IntWalk.i64_in _ (by omega)
   have e5 : IntKind.i64.wrap (k + 1) = k + 1 := IntWalk.i64_in _ (by omega)
   have e6 : ((k : Int) + 1).tmod 4 = ((k : Int) + 1) % 4 := Int.tmod_eq_emod_of_nonneg (by omega)
   have e7 : IntKind.i64.wrap (p1 * p3 + x + 1 + p2) = p1 * p3 + x + 1 + p2 := IntWalk.i64_in _ (by omega)
   have e8 : (p1 * p3 + x + 1 + p2).tmod 2147483579 = (p1 * p3 + x + 1 + p2) % 2147483579 := Int.tmod_eq_emod_of_nonneg (by omega)
   have n0 : 0 ≤ ((k : Int) + 1) % 4 := by omega
   have n4 : ((k : Int) + 1) % 4 < 4 := by omega
   have n1 : (((k : Int) + 1) % 4).toNat = (k + 1) % 4 := by omega
   go_still_tail 20,(by kernel_rfl)
   clear e1 e2 e3 e4 e5 e6 e7 e8 n0 n4 n1
   skip
   change wpList _ _ _ _ _ wr.drew
   have HW2 : qq (wr.drew.heap[ga]? = some (.cells (nums .i64 (mixN l x k)).toArray 140 (0,0)) ∧ OnlyB w wr.drew ga) := ⟨HW.out.1,HW.out.2.drew⟩
   clear HW hc1 hc2 hc3 hf
   generalize wr.drew = w2 at HW2 ⊢
   have hc1 := nums_cell HW2.out.1 k (by rw [mix_len,HL.out];omega)
   have hf := qv HW2.out.1 k
   go_wp2
   go_roundw
   case rel =>
    refine ⟨k + 1,by omega,by go_num,?_,HW2.out.2.set _ _⟩
    rw [blk_set HW2.out.1]
    simp only [mixN,stepAt,nums,List.map_set,List.setIfInBounds_toArray,EP1.out,EP2.out,EP3.out]
   case measure => simp [intOf];omega
  ·go_wp2
   obtain rfl : k = 4 := by omega
   exact bodyPost_end (results_none rfl _ _ _) rfl ⟨rfl,HW.out.1,HW.out.2⟩
def isBytes (l : List Int) : Prop := ∀ x ∈ l,0 ≤ x ∧ x ≤ 255
instance (l : List Int) : Decidable (isBytes l) := by unfold isBytes;infer_instance
def dgMix (a : List Int) (x : Int) : List Int := mixN a x 4
def dgAll (a : List Int) (xs : List Int) : List Int := xs.foldl dgMix a
def yb (n : Int) : List Int := [n % 256,(n / 256) % 256,(n / 65536) % 256,(n / 16777216) % 256]
def dgS (l : List Int) : List Int := dgAll (dgAll (dgAll [11,22,33,44] l) (yb l.length)) (List.replicate 8 0)
def dg (l : List Int) : List Int := (dgS l).flatMap yb
def xv.f (l0 : List Int) : Option (List Int) := if isBytes l0 then (if (l0.length : Int) > 20000 then some [] else some (dg l0)) else none
theorem yb_bytes (n : Int) : isBytes (yb n) := by
 intro x hx
 simp only [yb,List.mem_cons,List.not_mem_nil,or_false] at hx
 omega
theorem yb_len (n : Int) : (yb n).length = 4 := rfl
structure DigInv (w wr : World) (a : List Int) : Prop where
 A : wr.heap[w.heap.size]? = some (.cells (nums .i64 a).toArray 140 (0,0))
 M : wr.heap[w.heap.size + 1]? = some (.cells (nums .i64 mulT).toArray 140 (0,0))
 B : Below w.heap.size w wr
 len : a.length = 4
 bd : ∀ j,j < 4 → 0 ≤ a.getD j 0 ∧ a.getD j 0 < 2147483579
theorem DigInv.to {w wr w' : World} {a : List Int} {x : Int} (h : DigInv w wr a) (hx : 0 ≤ x) (h1 : w'.heap[w.heap.size]? = some (.cells (nums .i64 (mixN a x 4)).toArray 140 (0,0))) (h2 : OnlyB wr w' w.heap.size) : DigInv w w' (dgMix a x) :=
 ⟨h1,(h2.block _ (by omega)).trans h.M,⟨h2.os.trans h.B.os,h2.tape.trans h.B.tape,h2.output.trans h.B.output,by rw [h2.size];exact h.B.size,fun k hk => (h2.block k (by omega)).trans (h.B.block k hk)⟩,by rw [dgMix,mix_len,h.len],mix_bd a x hx h.len h.bd 4 (by omega)⟩
theorem DigInv.drew {w wr : World} {a : List Int} (h : DigInv w wr a) : DigInv w wr.drew a := ⟨h.A,h.M,h.B.drew,h.len,h.bd⟩
theorem DigInv.keep {w wr w' : World} {a : List Int} (h : DigInv w wr a) (hb : Below (w.heap.size + 2) wr w') : DigInv w w' a :=
 ⟨(hb.block _ (by omega)).trans h.A,(hb.block _ (by omega)).trans h.M,h.B.trans (hb.mono (by omega)),h.len,h.bd⟩
theorem DigInv.lt {w wr : World} {a : List Int} (h : DigInv w wr a) : w.heap.size + 2 ≤ wr.heap.size := blk_lt h.M
theorem eat_inv {w wr : World} {a : List Int} (h : DigInv w wr a) (x : Int) (hx0 : 0 ≤ x) (hx1 : x ≤ 255) :
  Calls Try.prog 119 #[.int .u8 x,.pointer (some ⟨w.heap.size,0,none⟩),.pointer (some ⟨w.heap.size + 1,0,none⟩)] wr fun e w' => e = .returned (.tuple #[]) ∧ DigInv w w' (dgMix a x) ∧ OnlyB wr w' w.heap.size :=
 (eat_calls x a h.len h.bd _ _ wr hx0 hx1 h.A h.M (by omega)).mono fun e w' ⟨he,h1,h2⟩ => ⟨he,h.to hx0 h1 h2,h2⟩
theorem DigInv.start (w : World) : DigInv w ((w.alloc (.cells #[.int .i64 11,.int .i64 22,.int .i64 33,.int .i64 44] 140)).alloc (.cells #[.int .i64 1103515245,.int .i64 69069,.int .i64 1664525,.int .i64 22695477] 140)) [11,22,33,44] :=
 ⟨zq (blk_new w _) _,by have := blk_new (w.alloc (.cells #[.int .i64 11,.int .i64 22,.int .i64 33,.int .i64 44] 140)) (.cells (nums .i64 mulT).toArray 140 (0,0));simpa [nums,mulT] using this,((Below.refl _ _).alloc (Nat.le_refl _) _).alloc (by simp) _,rfl,by decide⟩
theorem rd_mem {l : List Int} {k : Nat} (h : k < l.length) : rd l k ∈ l := by
 simp [rd,List.getD_eq_getElem?_getD,List.getElem?_eq_getElem h]
theorem take_snoc_rd {l : List Int} {k : Nat} (h : k < l.length) : l.take (k + 1) = l.take k ++ [rd l k] := by
 rw [List.take_succ_eq_append_getElem h];simp [rd,List.getD_eq_getElem?_getD,List.getElem?_eq_getElem h]
theorem dgAll_nil (a : List Int) : dgAll a [] = a := rfl
theorem dgAll_snoc (a l : List Int) (x : Int) : dgAll a (l ++ [x]) = dgMix (dgAll a l) x := by simp [dgAll]
theorem R_only {α : Type} {d : Kd α} {e base : Nat} {w w' : World} {ok : Nat → Prop} {v : Value} {xs : List α} (h : d.R e w base ok v xs) {g : Nat} (ho : OnlyB w w' g) (hg : g < base) : d.R e w' base ok v xs :=
 Kd.R_mono (Kd.R_move (Kd.R_bound h) (fun k hk => ho.block k (by have := hk.2.1;omega))) (fun _ hk => hk.1)
theorem R_at {e base n c : Nat} {w : World} {ok : Nat → Prop} {kd : IntKind} {A : Option Addr} {xs : List Int} (h : (Kd.int kd).R e w base ok (.slice A n c) xs) (k : Nat) (hk : k < xs.length) :
  ∃ ad,A = some ad ∧ w.cell? (ad.add k) = some (.int kd (rd xs k)) := by
 obtain ⟨A',c',he,_,hC⟩ := Kd.R_reads h
 injection he with h1 h2 h3
 subst h1
 obtain ⟨ad,h4,h5⟩ := Kd.at_int hC k (by omega) (by omega)
 exact ⟨ad,h4,by simpa using h5⟩
theorem agg4_index0 (b0 b1 b2 b3 : Int) (W : World) : (Instr.index 140 (.agg #[.int .i64 b0,.int .i64 b1,.int .i64 b2,.int .i64 b3]) (.int .i64 0)).run Try.prog W = .ok (.int .i64 b0) W := by kernel_rfl
theorem agg4_index1 (b0 b1 b2 b3 : Int) (W : World) : (Instr.index 140 (.agg #[.int .i64 b0,.int .i64 b1,.int .i64 b2,.int .i64 b3]) (.int .i64 1)).run Try.prog W = .ok (.int .i64 b1) W := by kernel_rfl
theorem agg4_index2 (b0 b1 b2 b3 : Int) (W : World) : (Instr.index 140 (.agg #[.int .i64 b0,.int .i64 b1,.int .i64 b2,.int .i64 b3]) (.int .i64 2)).run Try.prog W = .ok (.int .i64 b2) W := by kernel_rfl
theorem agg4_index3 (b0 b1 b2 b3 : Int) (W : World) : (Instr.index 140 (.agg #[.int .i64 b0,.int .i64 b1,.int .i64 b2,.int .i64 b3]) (.int .i64 3)).run Try.prog W = .ok (.int .i64 b3) W := by kernel_rfl
theorem agg4_index (b0 b1 b2 b3 : Int) (k : Nat) (hk : k < 4) (W : World) : (Instr.index 140 (.agg #[.int .i64 b0,.int .i64 b1,.int .i64 b2,.int .i64 b3]) (.int .i64 (k : Int))).run Try.prog W = .ok (.int .i64 (rd [b0,b1,b2,b3] k)) W := by
 rcases k with _ | _ | _ | _ | k
 ·exact agg4_index0 b0 b1 b2 b3 W
 ·exact agg4_index1 b0 b1 b2 b3 W
 ·exact agg4_index2 b0 b1 b2 b3 W
 ·exact agg4_index3 b0 b1 b2 b3 W
 ·omega
set_option maxHeartbeats 1000000 in
set_option maxRecDepth 100000 in
theorem xv.calls (A0 : Option Addr) (c0 : Nat) (l0 : List Int) (r : List Int) (w : World) (hr0 : Kd.C (Kd.int .u8) w A0 l0.length l0) (hc0 : l0.length ≤ c0) (h : xv.f l0 = some r) :
  Calls Try.prog 59 #[.slice A0 l0.length c0] w fun e w' => ∃ v0_ : Value,e = .returned (v0_) ∧ Kd.R (Kd.int .u8) 5 w' w.heap.size (fun _ => True) v0_ r ∧ Below w.heap.size w w' := by
 have HR0 := qq.mk hr0
 have HC0 := qq.mk hc0
 clear hr0 hc0
 unfold xv.f at h
 by_cases hb : isBytes l0
 case neg => rw [if_neg hb] at h;cases h
 rw [if_pos hb] at h
 have HBY := qq.mk hb
 clear hb
 by_cases hbig : (l0.length : Int) > 20000
 ·rw [if_pos hbig] at h
  obtain rfl := Option.some.inj h
  clear h
  go_enter Try.func59,Try.ntmps59
  go_wp2
  go_ret
  exact ⟨_,rfl,Kd.R_nil _ _ _ _ _,Below.refl _ _⟩
 ·rw [if_neg hbig] at h
  obtain rfl := Option.some.inj h
  clear h
  go_enter Try.func59,Try.ntmps59
  go_wp2
  have HI := qq.mk (DigInv.start w)
  generalize ((w.alloc (.cells #[.int .i64 11,.int .i64 22,.int .i64 33,.int .i64 44] 140)).alloc (.cells #[.int .i64 1103515245,.int .i64 69069,.int .i64 1664525,.int .i64 22695477] 140)) = w2 at HI ⊢
  go_loopw [21] (fun i wr => ∃ k : Nat,k ≤ l0.length ∧ i = .int .i64 k ∧ qq (DigInv w wr (dgAll [11,22,33,44] (l0.take k)))) (fun i _ => l0.length - (intOf i).toNat)
  case atStart => exact ⟨0,by omega,rfl,HI⟩
  case round =>
   clear HI
   obtain ⟨k,hk,rfl,HW⟩ := hrel
   by_cases hlt : k < l0.length
   ·obtain ⟨ad,rfl,hcell⟩ := Kd.at_int (Kd.C_below HR0.out HW.out.B) k (by omega) (by omega)
    have hby := HBY.out (rd l0 k) (rd_mem hlt)
    obtain ⟨x,ex⟩ : ∃ x,x = rd l0 k := ⟨_,rfl⟩
    rw [Int.toNat_natCast] at hcell
    rw [← ex] at hcell hby
    have EX := qq.mk ex
    clear ex
    go_wp2_with (go_at_call 119;refine (eat_inv HW.out x hby.1 hby.2).mono ?_;rintro e w' ⟨rfl,HN,_⟩;replace HN := qq.mk HN)
    go_roundw
    case rel => exact ⟨k + 1,by omega,by go_num,⟨by rw [take_snoc_rd hlt,← EX.out,dgAll_snoc];exact HN.out⟩⟩
    case measure => simp [intOf];omega
   ·obtain rfl : k = l0.length := by omega
    rw [List.take_length] at HW
    clear hlt hk
    have HX := HW
    go_wp2_with (go_at_call 120;refine (qqj.calls (l0.length : Int) (yb l0.length) _ rfl).mono ?_;rintro e w1 ⟨v1,rfl,HV,HB1⟩;obtain ⟨A1,c1,rfl⟩ := Kd.R_slice HV;replace HW := qq.mk (HW.out.keep (HB1.mono HW.out.lt));replace HV := qq.mk (Kd.R_lower HV (base' := w.heap.size + 2) (DigInv.lt HX.out));clear HB1)
    clear HX
    have HYB := qq.mk (yb_bytes l0.length)
    have hyl : (yb (l0.length : Int)).length = 4 := rfl
    replace hyl := qq.mk hyl
    go_loopw [33] (fun i wr => ∃ k : Nat,k ≤ (yb l0.length).length ∧ i = .int .i64 k ∧ qq (DigInv w wr (dgAll (dgAll [11,22,33,44] l0) ((yb l0.length).take k)) ∧ Kd.R (Kd.int .u8) 5 wr (w.heap.size + 2) (fun _ => True) (.slice A1 (yb (l0.length : Int)).length c1) (yb l0.length))) (fun i _ => (yb l0.length).length - (intOf i).toNat)
    case atStart => exact ⟨0,by omega,rfl,⟨HW.out,HV.out⟩⟩
    case round =>
     clear HW HV
     obtain ⟨k,hk,rfl,HW⟩ := hrel
     by_cases hlt : k < (yb l0.length).length
     ·obtain ⟨ad,rfl,hcell⟩ := R_at HW.out.2 k hlt
      have hby := HYB.out (rd (yb l0.length) k) (rd_mem hlt)
      obtain ⟨x,ex⟩ : ∃ x,x = rd (yb l0.length) k := ⟨_,rfl⟩
      rw [← ex] at hcell hby
      have EX := qq.mk ex
      clear ex
      have hyl5 : (yb (l0.length : Int)).length ≤ 4 := Nat.le_of_eq hyl.out
      go_wp2_with (go_at_call 119;refine (eat_inv HW.out.1 x hby.1 hby.2).mono ?_;rintro e w' ⟨rfl,HN,HO⟩;replace HN := qq.mk HN;replace HO := qq.mk (R_only HW.out.2 HO (by omega)))
      go_roundw
      case rel => exact ⟨k + 1,by omega,by go_num,⟨by rw [take_snoc_rd hlt,← EX.out,dgAll_snoc];exact HN.out,HO.out⟩⟩
      case measure => simp [intOf];omega
     ·obtain rfl : k = (yb l0.length).length := by omega
      rw [List.take_length] at HW
      clear hlt hk
      replace HW := qq.mk HW.out.1
      go_wp2
      go_loopw [41] (fun i wr => ∃ k : Nat,k ≤ 8 ∧ i = .int .i64 k ∧ qq (DigInv w wr (dgAll (dgAll (dgAll [11,22,33,44] l0) (yb l0.length)) (List.replicate k 0)))) (fun i _ => 8 - (intOf i).toNat)
      case atStart => exact ⟨0,by omega,rfl,⟨by rw [List.replicate_zero,dgAll_nil];exact HW.out⟩⟩
      case round =>
       clear HW
       obtain ⟨k,hk,rfl,HW⟩ := hrel
       by_cases hlt : k < 8
       ·go_wp2_with (go_at_call 119;refine (eat_inv HW.out 0 (by omega) (by omega)).mono ?_;rintro e w' ⟨rfl,HN,HO⟩;clear HO;replace HN := qq.mk HN)
        go_roundw
        case rel => exact ⟨k + 1,by omega,by go_num,⟨by rw [List.replicate_succ',dgAll_snoc];exact HN.out⟩⟩
        case measure => simp [intOf];omega
       ·obtain rfl : k = 8 := by omega
        rw [show ((8 : Nat) : Int) = 8 from rfl]
        clear hlt hk
        replace HW : qq (DigInv w wr (dgS l0)) := HW
        obtain ⟨b0,b1,b2,b3,eb⟩ : ∃ b0 b1 b2 b3,dgS l0 = [b0,b1,b2,b3] := by
         have := HW.out.len
         match dgS l0,this with
         | [b0,b1,b2,b3],_ => exact ⟨b0,b1,b2,b3,rfl⟩
        have hb0 : wr.cell? ⟨w.heap.size,0,none⟩ = some (.int .i64 b0) := by rw [qw HW.out.A,eb];rfl
        have hb1 : wr.cell? ⟨w.heap.size,1,none⟩ = some (.int .i64 b1) := by rw [qw HW.out.A,eb];rfl
        have hb2 : wr.cell? ⟨w.heap.size,2,none⟩ = some (.int .i64 b2) := by rw [qw HW.out.A,eb];rfl
        have hb3 : wr.cell? ⟨w.heap.size,3,none⟩ = some (.int .i64 b3) := by rw [qw HW.out.A,eb];rfl
        replace eb := qq.mk eb
        go_wp2
        replace HW := qq.mk HW.out.B
        clear hb0 hb1 hb2 hb3 hbig
        go_loopw [47,10] (fun i v W => ∃ (k : Nat) (ys : List Int),k ≤ 4 ∧ i = .int .i64 k ∧ qq (ys = ([b0,b1,b2,b3].take k).flatMap yb ∧ ys.length = 4 * k ∧ Kd.R (Kd.int .u8) 5 W w.heap.size (fun _ => True) v ys ∧ Below w.heap.size w W)) (fun i _ _ => 4 - (intOf i).toNat)
        case atStart => exact ⟨0,[],by omega,rfl,⟨rfl,by simp,Kd.R_nil _ _ _ _ _,HW.out⟩⟩
        case round =>
         clear HW
         obtain ⟨k,ys,hk,rfl,HW⟩ := hrel
         obtain ⟨A2,c2,rfl⟩ := Kd.R_slice HW.out.2.2.1
         by_cases hlt : k < 4
         ·have hi := agg4_index b0 b1 b2 b3 k hlt
          obtain ⟨q,eq⟩ : ∃ q,q = rd [b0,b1,b2,b3] k := ⟨_,rfl⟩
          rw [← eq] at hi
          replace eq := qq.mk eq
          obtain ⟨zs,ez⟩ : ∃ zs,zs = yb q := ⟨_,rfl⟩
          have hz : qq (qqj.f q = some zs ∧ zs.length = 4) := ⟨by rw [ez];rfl,by rw [ez];rfl⟩
          replace ez := qq.mk ez
          go_wp2_with (first | (go_at_call 120;refine (qqj.calls q zs _ hz.out.1).mono ?_;rintro e w1 ⟨v1,rfl,HV,HB1⟩;obtain ⟨A3,c3,rfl,hc3,hC3⟩ := Kd.R_reads HV;have HW2 := qq.mk (⟨Kd.R_below HW.out.2.2.1 HB1,zv HW.out.2.2.2 HB1⟩ : _ ∧ _);replace HV := qq.mk hC3;clear hC3 HB1) | ((with_reducible refine gate_builtin (b := .append) (xs := #[.tmp 50,.tmp 52]) rfl ?_);at_builtin;refine Kd.R_append_row (Value.int .u8) 0 (w0 := w) w.heap.size rfl (.tmp 50) (.tmp 52) 26 5 (.int .u8 0) 1 rfl Try.underlying26 info5 rfl (by decide) _ ys zs _ _ _ (fun _ => True) rfl rfl (fun _ _ => trivial) HW2.out.1 HV.out HW2.out.2 HW2.out.2.size ?aL ?_;(case aL => have h1 := HW.out.2.1;have h2 := hz.out.2;omega);intro v1 w3 hr hb hg hat;replace hr := qq.mk hr;replace hb := qq.mk hb;clear hg hat))
          go_roundw
          case rel => exact ⟨k + 1,ys ++ zs,by omega,by go_num,⟨by rw [take_snoc_rd (by simpa using hlt),← eq.out,List.flatMap_append,← HW.out.1,ez.out];simp,by have h1 := HW.out.2.1;have h2 := hz.out.2;rw [List.length_append];omega,hr.out,hb.out⟩⟩
          case measure => simp [intOf];omega
         ·obtain rfl : k = 4 := by omega
          go_wp2
          go_ret
          refine ⟨_,rfl,?_,HW.out.2.2.2⟩
          have e1 := HW.out.1
          rw [List.take_of_length_le (by simp)] at e1
          have e2 : ys = dg l0 := by rw [e1,dg,eb.out]
          rw [← e2]
          exact HW.out.2.2.1
def xw.j0 : Nat → List Int → List Int → Bool → Option (List Int)
 | 0,_,_,_ => none
 | k + 1,x0,x1,x12 => if x12 = true then (some ([] : List Int)) else ((xv.f x0).bind fun t101 => ((xv.f x1).bind fun t104 => (if t101.length + t104.length < 140737488355328 then ((xv.f (t101 ++ t104)).bind fun t110 => (some t110)) else (none))))
def xw.f (k : Nat) (l0 : List Int) (l1 : List Int) : Option (List Int) := if (l0.length : Int) > 20000 then (xw.j0 k l0 l1 true) else (xw.j0 k l0 l1 (decide ((l1.length : Int) > 20000)))
set_option maxHeartbeats 8000000 in
set_option maxRecDepth 100000 in
theorem xw.calls (k : Nat) (A0 : Option Addr) (c0 : Nat) (l0 : List Int) (A1 : Option Addr) (c1 : Nat) (l1 : List Int) (r : List Int) (w : World) (hr0 : Kd.C (Kd.int .u8) w A0 l0.length l0) (hc0 : l0.length ≤ c0) (hr1 : Kd.C (Kd.int .u8) w A1 l1.length l1) (hc1 : l1.length ≤ c1) (h : xw.f k l0 l1 = some r) :
  Calls Try.prog 103 #[.slice A0 l0.length c0,.slice A1 l1.length c1] w fun e w' => ∃ v0_ : Value,e = .returned (v0_) ∧ Kd.R (Kd.int .u8) 5 w' w.heap.size (fun _ => True) v0_ r ∧ Below w.heap.size w w' := by
 have HR0 := qq.mk hr0
 have HC0 := qq.mk hc0
 clear hr0 hc0
 have HR1 := qq.mk hr1
 have HC1 := qq.mk hc1
 clear hr1 hc1
 have HB := qq.mk (Below.refl w.heap.size w)
 have H : (if (l0.length : Int) > 20000 then (xw.j0 k l0 l1 true) else (xw.j0 k l0 l1 (decide ((l1.length : Int) > 20000)))) = some r := h
 clear h
 have HC3 := qq.mk H
 clear H
 go_enter Try.func103,Try.ntmps103
 go_upto_region 1 with (fail)
 go_cut [12] (fun v12 wc => ∃ (kq : Nat) (x12_2 : Bool),v12 = .bool x12_2 ∧ qq (xw.j0 kq l0 l1 x12_2 = some r) ∧ qq (kq ≤ k) ∧ qq (Below w.heap.size w wc))
 case first =>
  have H := HC3.out
  clear HC3
  by_cases c4 : (l0.length : Int) > 20000
  ·rw [if_pos c4] at H
   have c4b0 : decide (20000 < (l0.length : Int)) = true := decide_eq_true c4
   have c4b1 : decide (20000 < l0.length) = true := decide_eq_true (by omega)
   clear c4
   (first | rw [c4b0] | (simp only [i64_w,i32_w];rw [c4b0]) | skip)
   have H' := qq.mk H
   clear H
   go_wp2
   go_meet
   case rel => exact ⟨_,(true),(by first | rfl | (simp;done) | (simp [*];done)),H',⟨by first | omega | exact Nat.le_refl _⟩,⟨by repeat (first | (with_reducible first | exact HB.out | apply qj | apply qz | apply qk) | exact HB.out)⟩⟩
  ·rw [if_neg c4] at H
   have c4b0 : decide (20000 < (l0.length : Int)) = false := decide_eq_false c4
   have c4b1 : decide (20000 < l0.length) = false := decide_eq_false (by omega)
   clear c4
   (first | rw [c4b0] | (simp only [i64_w,i32_w];rw [c4b0]) | skip)
   have H' := qq.mk H
   clear H
   go_wp2
   go_meet
   case rel => exact ⟨_,(decide ((l1.length : Int) > 20000)),(by first | rfl | (simp;done) | (simp [*];done)),H',⟨by first | omega | exact Nat.le_refl _⟩,⟨by repeat (first | (with_reducible first | exact HB.out | apply qj | apply qz | apply qk) | exact HB.out)⟩⟩
 case rest =>
  clear HC3
  try clear c1
  try clear p2
  try clear c4
  try clear c4b0
  try clear c4b1
  obtain ⟨kq,x12_2,rfl,HA,HJ2,HB⟩ := hcut
  cases kq with
  | zero => exact absurd HA.out (by simp [xw.j0])
  | succ kj2 =>
   have H := HA.out
   clear HA
   simp only [xw.j0] at H
   by_cases c5 : x12_2 = true
   ·subst c5
    have H1 : (some ([] : List Int)) = some r := by rw [if_pos rfl] at H;exact H
    clear H
    have H := H1
    clear H1
    obtain rfl := Option.some.inj H
    go_wp2
    go_ret
    exact ⟨_,by first | rfl | (simp [*,kz,jx] <;> rfl),by first | exact Kd.R_nil _ _ _ _ _ | exact Kd.N_nil _ _ _ _ _ | exact Kd.V_nil _ _ _ _ _ | exact Kd.Q_nil _ _ _ _ _ | exact Kd.S_nil _ _ _ _ _,by repeat (first | (with_reducible first | exact HB.out | apply qj | apply qz | apply qk) | exact HB.out)⟩
   ·replace c5 := Bool.eq_false_iff.mpr c5
    subst c5
    have H1 : ((xv.f l0).bind fun t101 => ((xv.f l1).bind fun t104 => (if t101.length + t104.length < 140737488355328 then ((xv.f (t101 ++ t104)).bind fun t110 => (some t110)) else (none)))) = some r := by rw [if_neg (show ¬ (false = true) by decide)] at H;exact H
    clear H
    have H := H1
    clear H1
    replace H := Option.bind_eq_some_iff.mp H
    obtain ⟨t101,A60,H⟩ := H
    replace H : ((xv.f l1).bind fun t104 => (if t101.length + t104.length < 140737488355328 then ((xv.f (t101 ++ t104)).bind fun t110 => (some t110)) else (none))) = some r := H
    have A6 := qq.mk A60
    clear A60
    replace H := Option.bind_eq_some_iff.mp H
    obtain ⟨t104,A70,H⟩ := H
    replace H : (if t101.length + t104.length < 140737488355328 then ((xv.f (t101 ++ t104)).bind fun t110 => (some t110)) else (none)) = some r := H
    have A7 := qq.mk A70
    clear A70
    by_cases c8 : t101.length + t104.length < 140737488355328
    ·rw [if_pos c8] at H
     have LMc8 := qq.mk c8
     clear c8
     obtain ⟨y107,hy107⟩ : ∃ y_ : List Int,y_ = (t101 ++ t104) := ⟨_,rfl⟩
     replace H : ((xv.f y107).bind fun t110 => (some t110)) = some r := by first | (rw [hy107];with_reducible exact H) | (have H2_ := (Option.bind_some _ _).symm.trans H;rw [hy107];with_reducible exact H2_) | (have H2_ := (Option.bind_some _ _).symm.trans H;with_reducible exact H2_) | with_reducible exact H | (rw [hy107];exact H) | exact H
     have Ny107 := qq.mk hy107
     clear hy107
     replace H := Option.bind_eq_some_iff.mp H
     obtain ⟨t110,A90,H⟩ := H
     replace H : (some t110) = some r := H
     have A9 := qq.mk A90
     clear A90
     obtain rfl := Option.some.inj H
     go_wp2_with (first | ((with_reducible refine kj (f := 59) rfl ?_);refine goesL_ (some 14) rfl rfl Try.func59 (by kernel_rfl) rfl #[.slice A0 l0.length c0] rfl (by (try simp only [List.map_toArray,List.map_cons,List.map_nil]);first | done | rfl | (simp only [List.length_drop,List.length_take];rfl)) ?_;(with_reducible refine (xv.calls _ _ l0 t101 _ ?side1 ?side2 A6.out).mono ?_);(case side1 => repeat (first | exact (Kd.C_below HR0.out HB.out) | (with_reducible refine Kd.C_alloc ?_ _) | (with_reducible refine Kd.C_drewN ?_ _) | (with_reducible refine Kd.C_drew ?_)));(case side2 => exact HC0.out);rintro e w10 ⟨v102,rfl,ho0,hb⟩;refine ⟨_,rfl,?_⟩;have n0_ := qq.mk (Kd.R_lower ho0 (zw (by repeat (first | (with_reducible first | exact HB.out | apply qj | apply qz | apply qk) | exact HB.out))));have n1_ := qq.mk (zv (by repeat (first | (with_reducible first | exact HB.out | apply qj | apply qz | apply qk) | exact HB.out)) hb);clear HB;have HO103 := n0_;have HB := n1_;clear n0_ n1_;(try clear hb);(try clear hb2);(try clear hk);(try clear hi);(try clear ho0)) | ((with_reducible refine kj (f := 59) rfl ?_);refine goesL_ (some 16) rfl rfl Try.func59 (by kernel_rfl) rfl #[.slice A1 l1.length c1] rfl (by (try simp only [List.map_toArray,List.map_cons,List.map_nil]);first | done | rfl | (simp only [List.length_drop,List.length_take];rfl)) ?_;(with_reducible refine (xv.calls _ _ l1 t104 _ ?side1 ?side2 A7.out).mono ?_);(case side1 => repeat (first | exact (Kd.C_below HR1.out HB.out) | (with_reducible refine Kd.C_alloc ?_ _) | (with_reducible refine Kd.C_drewN ?_ _) | (with_reducible refine Kd.C_drew ?_)));(case side2 => exact HC1.out);rintro e w11 ⟨v105,rfl,ho0,hb⟩;refine ⟨_,rfl,?_⟩;have n0_ := qq.mk (Kd.R_elder' (by (with_reducible repeat (first | apply Kd.jq | apply Kd.zx | apply Kd.jz));exact HO103.out) (Kd.R_base ho0) hb);have n1_ := qq.mk (Kd.R_lower (Kd.R_new' ho0 (Kd.R_lt (by (with_reducible repeat (first | apply Kd.jq | apply Kd.zx | apply Kd.jz));exact HO103.out))) (zw (by repeat (first | (with_reducible first | exact HB.out | apply qj | apply qz | apply qk) | exact HB.out))));have n2_ := qq.mk (zv (by repeat (first | (with_reducible first | exact HB.out | apply qj | apply qz | apply qk) | exact HB.out)) hb);clear HO103;clear HB;have HO103 := n0_;have HO106 := n1_;have HB := n2_;clear n0_ n1_ n2_;(try clear hb);(try clear hb2);(try clear hk);(try clear hi);(try clear ho0);obtain ⟨Ao13,co13,eo13⟩ := Kd.R_slice HO106.out;subst eo13) | ((with_reducible refine gate_builtin (b := .append) (xs := #[.tmp 14,.tmp 16]) rfl ?_);(try (refine gate_guard (by rfl) ?_;dsimp only));at_builtin;refine Kd.R_append_rows (Kd.int .u8) (w0 := w) w.heap.size rfl (.tmp 14) (.tmp 16) 26 5 (.int .u8 0) 1 rfl Try.underlying26 info5 rfl (by decide) (by omega) v102 t101 t104 _ _ _ (fun k_ => some k_ ≠ (.slice Ao13 t104.length co13 : Value).ownBlock) (fun _ => False) rfl rfl ?aO ?aR (fun _ _ h => h) (fun _ h => h.elim) ?aF ?aB ?aS ?aL ?_;(case aR => repeat (first | exact (Kd.R_reads' HO106.out).2.2 | (with_reducible refine Kd.C_alloc ?_ _) | (with_reducible refine Kd.C_drewN ?_ _) | (with_reducible refine Kd.C_drew ?_)));(case aB => exact (by repeat (first | (with_reducible first | exact HB.out | apply qj | apply qz | apply qk) | exact HB.out)));(case aF => exact (fun k_ hk => Kd.fresh' (Kd.R_lt (by (with_reducible repeat (first | apply Kd.jq | apply Kd.zx | apply Kd.jz));exact HO106.out)) k_ hk));(case aO => exact (by (with_reducible repeat (first | apply Kd.jq | apply Kd.zx | apply Kd.jz));exact Kd.R_mono HO103.out (fun _ hk => hk.2)));(case aS => exact (zw (by repeat (first | (with_reducible first | exact HB.out | apply qj | apply qz | apply qk) | exact HB.out))));(case aL => have := LMc8.out;omega);intro v108 w12 ho hb hg hat;rw [← Ny107.out] at ho;have n0_ := qq.mk (Kd.R_after (ok := (fun _ => True)) (by (with_reducible repeat (first | apply Kd.jq | apply Kd.zx | apply Kd.jz));exact HO106.out) hg hat);have n1_ := qq.mk (hb);have n2_ := qq.mk (ho);clear HO106;clear HB;clear HO103;have HO106 := n0_;have HB := n1_;have HO109 := n2_;clear n0_ n1_ n2_;clear ho hb hg hat;obtain ⟨Ao14,co14,eo14⟩ := Kd.R_slice HO109.out;subst eo14) | ((with_reducible refine kj (f := 59) rfl ?_);refine goesL_ (some 18) rfl rfl Try.func59 (by kernel_rfl) rfl #[.slice Ao14 y107.length co14] rfl (by (try simp only [List.map_toArray,List.map_cons,List.map_nil]);first | done | rfl | (simp only [List.length_drop,List.length_take];rfl)) ?_;(with_reducible refine (xv.calls _ _ y107 t110 _ ?side1 ?side2 A9.out).mono ?_);(case side1 => repeat (first | exact (Kd.R_reads' HO109.out).2.2 | (with_reducible refine Kd.C_alloc ?_ _) | (with_reducible refine Kd.C_drewN ?_ _) | (with_reducible refine Kd.C_drew ?_)));(case side2 => exact (Kd.R_reads' HO109.out).2.1);rintro e w15 ⟨v111,rfl,ho0,hb⟩;refine ⟨_,rfl,?_⟩;have n0_ := qq.mk (Kd.R_elder' (by (with_reducible repeat (first | apply Kd.jq | apply Kd.zx | apply Kd.jz));exact HO106.out) (Kd.R_base ho0) hb);have n1_ := qq.mk (Kd.R_elder' (by (with_reducible repeat (first | apply Kd.jq | apply Kd.zx | apply Kd.jz));exact HO109.out) (Kd.R_base ho0) hb);have n2_ := qq.mk (Kd.R_lower (Kd.R_new' (Kd.R_new' ho0 (Kd.R_lt (by (with_reducible repeat (first | apply Kd.jq | apply Kd.zx | apply Kd.jz));exact HO106.out))) (Kd.R_lt (by (with_reducible repeat (first | apply Kd.jq | apply Kd.zx | apply Kd.jz));exact HO109.out))) (zw (by repeat (first | (with_reducible first | exact HB.out | apply qj | apply qz | apply qk) | exact HB.out))));have n3_ := qq.mk (zv (by repeat (first | (with_reducible first | exact HB.out | apply qj | apply qz | apply qk) | exact HB.out)) hb);clear HO106;clear HO109;clear HB;have HO106 := n0_;have HO109 := n1_;have HO112 := n2_;have HB := n3_;clear n0_ n1_ n2_ n3_;(try clear hb);(try clear hb2);(try clear hk);(try clear hi);(try clear ho0)))
     go_ret
     exact ⟨_,by first | rfl | (simp [*,kz,jx] <;> rfl),by (with_reducible repeat (first | apply Kd.jq | apply Kd.zx | apply Kd.jz));exact Kd.R_mono HO112.out (fun _ hk => trivial),by repeat (first | (with_reducible first | exact HB.out | apply qj | apply qz | apply qk) | exact HB.out)⟩
    ·rw [if_neg c8] at H
     exact absurd H (by simp)
def bytesOfS.f (s : ByteArray) : Option (List Int) := if s.size ≤ 9223372036854775807 then some (bytesOf s) else none
def BytesCalls (P : Program) (src dst : TypeId) (s : ByteArray) (w : World) (R : Ending → World → Prop) : Prop :=
 ∃ v w',(convert src dst (.string s)).run P w = .ok v w' ∧ R (.returned v) w'
theorem BytesCalls.mono {P : Program} {src dst : TypeId} {s : ByteArray} {w : World} {R R' : Ending → World → Prop} (h : BytesCalls P src dst s w R) (hr : ∀ e w',R e w' → R' e w') : BytesCalls P src dst s w R' :=
 let ⟨v,w',h1,h2⟩ := h;⟨v,w',h1,hr _ _ h2⟩
theorem bytesOfS.calls (a0 : ByteArray) (r : List Int) (w : World) (h : bytesOfS.f a0 = some r) :
  BytesCalls Try.prog 9 26 a0 w fun e w' => ∃ v0_ : Value,e = .returned (v0_) ∧ Kd.V (Kd.int .u8) 5 w' w.heap.size (fun k_ => (w.heap.size ≤ k_)) v0_ r ∧ Below w.heap.size w w' := by
 unfold bytesOfS.f at h
 by_cases hs : a0.size ≤ 9223372036854775807
 case neg => rw [if_neg hs] at h;cases h
 rw [if_pos hs] at h
 obtain rfl := Option.some.inj h
 refine ⟨_,_,print_bytes 9 26 5 Try.underlying9 Try.underlying26 Try.underlying5 a0 w,_,rfl,?_,xz (Below.refl _ _) (Nat.le_refl _) 5 a0⟩
 have hcell : ∀ W' : World,W'.heap[w.heap.size]? = (Lib.bytesWorld w 5 a0).heap[w.heap.size]? → (Kd.int .u8).C W' (some ⟨w.heap.size,0,none⟩) (bytesOf a0).length (bytesOf a0) := by
  intro W' hW
  have h0 := xk w 5 a0 hs
  have h1 : ReadsInt W' .u8 (some ⟨w.heap.size,0,none⟩) (bytesOf a0).length (bytesOf a0) := by
   refine ⟨rfl,by rw [bytesOf_length];exact hs,fun hp => ?_⟩
   obtain ⟨ad,e1,hc⟩ := h0.2.2 (by rw [bytesOf_length] at hp;exact hp)
   refine ⟨ad,e1,fun j hj => ?_⟩
   rw [← hc j (by rw [bytesOf_length] at hj;exact hj)]
   injection e1 with e1
   subst e1
   rw [add_plain]
   exact World.cell?_of_block (by exact hW)
  exact Kd.C_of_reads (d := (0 : Int)) (h1 := fun _ => rfl) h1
 refine ⟨some ⟨w.heap.size,0,none⟩,grownCap w a0.size 0 5,by rw [bytesOf_length],by rw [bytesOf_length];exact grownCap_ge _ _ _ _,fun W' hW => hcell W' (hW _ (Nat.le_refl _) ?_)⟩
 rw [Lib.bytesWorld_size];omega
section
variable {P : Program} {ops : Array Oper} {Q : Exit → Act → World → Prop}
theorem gate_convert {rest : List Oper} {o : Oper} {a : Act} {W : World} {src dst : TypeId} {x : Operand} (_ho : o.op = .convert src dst x) (h : wpList P ops Q (o :: rest) a W) : wpList P ops Q (o :: rest) a W := h
theorem bytesGoesL_ {rest : List Oper} {oi : Oper} {a : Act} {w : World} (N : Option Tmp) (hd : oi.dst = N) (hg : oi.guard = none) {src dst : TypeId} {x : Operand} {s : ByteArray} (hop : oi.op = .convert src dst x) (hx : a.eval x = .string s)
  (h : BytesCalls P src dst s w fun e w' => ∃ v,e = .returned v ∧ wpList P ops Q rest (a.put N v) w') : wpList P ops Q (oi :: rest) a w := by
 obtain ⟨v,w',hr,v',he,hw⟩ := h
 injection he with he
 subst he
 subst hd
 refine Kd.event_run hg ?_ hw
 unfold execOp
 simp [hop,hx,hr]
def BoxCalls (t : TypeId) (cs : Array Value) (w : World) (R : Ending → World → Prop) : Prop := R (.returned (.pointer (some ⟨w.heap.size,0,none⟩))) (w.alloc (.cells cs t (0,0)))
theorem BoxCalls.mono {t : TypeId} {cs : Array Value} {w : World} {R R' : Ending → World → Prop} (h : BoxCalls t cs w R) (hr : ∀ e w',R e w' → R' e w') : BoxCalls t cs w R' := hr _ _ h
theorem gate_box {rest : List Oper} {o : Oper} {a : Act} {W : World} {t : TypeId} {x : Operand} (_ho : o.op = .box t x) (h : wpList P ops Q (o :: rest) a W) : wpList P ops Q (o :: rest) a W := h
theorem boxGoesL_ {rest : List Oper} {oi : Oper} {a : Act} {w : World} (N : Option Tmp) (hd : oi.dst = N) (hg : oi.guard = none) {t : TypeId} {cs : Array Value}
  (hr : (execOp a.eval oi).run P w = .ok (.value (.pointer (some ⟨w.heap.size,0,none⟩))) (w.alloc (.cells cs t (0,0))))
  (h : BoxCalls t cs w fun e w' => ∃ v,e = .returned v ∧ wpList P ops Q rest (a.put N v) w') : wpList P ops Q (oi :: rest) a w := by
 obtain ⟨v',he,hw⟩ := h
 injection he with he
 subst he
 subst hd
 exact Kd.event_run hg hr hw
end
mutual
def qqz.j0 : Nat → ByteArray → List Int → Int → Bool → Option (List Int)
 | 0,_,_,_,_ => none
 | k + 1,x0,x1,x2,x23 => if x23 = true then (some ([] : List Int)) else ((bytesOfS.f x0).bind fun t101 => ((xw.f k t101 x1).bind fun t104 => (qqz.l0 k x0 t104 (wrap64 (x2 - 1)) 0)))
def qqz.l0 : Nat → ByteArray → List Int → Int → Int → Option (List Int)
 | 0,_,_,_,_ => none
 | k + 1,x0,x7,x29,x30 => if x30 < x29 then ((bytesOfS.f x0).bind fun t107 => ((xw.f k t107 x7).bind fun t110 => (qqz.l0 k x0 t110 x29 (wrap64 (x30 + 1))))) else (some x7)
end
def qqz.f (k : Nat) (a0 : ByteArray) (l1 : List Int) (a2 : Int) : Option (List Int) := if (a0.size : Int) > 64 then (qqz.j0 k a0 l1 a2 true) else (if (l1.length : Int) > 64 then (qqz.j0 k a0 l1 a2 true) else (if a2 < 1 then (qqz.j0 k a0 l1 a2 true) else (qqz.j0 k a0 l1 a2 (decide (a2 > 1000)))))
set_option maxHeartbeats 8000000 in
set_option maxRecDepth 100000 in
theorem qqz.calls (k : Nat) (a0 : ByteArray) (A1 : Option Addr) (c1 : Nat) (l1 : List Int) (a2 : Int) (r : List Int) (w : World) (hr1 : Kd.C (Kd.int .u8) w A1 l1.length l1) (hc1 : l1.length ≤ c1) (h : qqz.f k a0 l1 a2 = some r) :
  Calls Try.prog 44 #[.string a0,.slice A1 l1.length c1,.int .i64 a2] w fun e w' => ∃ v0_ : Value,e = .returned (v0_) ∧ Kd.R (Kd.int .u8) 5 w' w.heap.size (fun _ => True) v0_ r ∧ Below w.heap.size w w' := by
 have HR1 := qq.mk hr1
 have HC1 := qq.mk hc1
 clear hr1 hc1
 have HB := qq.mk (Below.refl w.heap.size w)
 have H : (if (a0.size : Int) > 64 then (qqz.j0 k a0 l1 a2 true) else (if (l1.length : Int) > 64 then (qqz.j0 k a0 l1 a2 true) else (if a2 < 1 then (qqz.j0 k a0 l1 a2 true) else (qqz.j0 k a0 l1 a2 (decide (a2 > 1000)))))) = some r := h
 clear h
 have HC4 := qq.mk H
 clear H
 go_enter Try.func44,Try.ntmps44
 go_upto_region 1 with (fail)
 go_cut [23] (fun v23 wc => ∃ (kq : Nat) (x23_3 : Bool),v23 = .bool x23_3 ∧ qq (qqz.j0 kq a0 l1 a2 x23_3 = some r) ∧ qq (kq ≤ k) ∧ qq (Below w.heap.size w wc))
 case first =>
  have H := HC4.out
  clear HC4
  by_cases c5 : (a0.size : Int) > 64
  ·rw [if_pos c5] at H
   have c5b0 : decide (64 < (a0.size : Int)) = true := decide_eq_true c5
   have c5b1 : decide (64 < a0.size) = true := decide_eq_true (by omega)
   clear c5
   (first | rw [c5b0] | (simp only [i64_w,i32_w];rw [c5b0]) | skip)
   have H' := qq.mk H
   clear H
   go_wp2
   go_meet
   case rel => exact ⟨_,(true),(by first | rfl | (simp;done) | (simp [*];done)),H',⟨by first | omega | exact Nat.le_refl _⟩,⟨by repeat (first | (with_reducible first | exact HB.out | apply qj | apply qz | apply qk) | exact HB.out)⟩⟩
  ·rw [if_neg c5] at H
   have c5b0 : decide (64 < (a0.size : Int)) = false := decide_eq_false c5
   have c5b1 : decide (64 < a0.size) = false := decide_eq_false (by omega)
   clear c5
   (first | rw [c5b0] | (simp only [i64_w,i32_w];rw [c5b0]) | skip)
   by_cases c6 : (l1.length : Int) > 64
   ·rw [if_pos c6] at H
    have c6b0 : decide (64 < (l1.length : Int)) = true := decide_eq_true c6
    have c6b1 : decide (64 < l1.length) = true := decide_eq_true (by omega)
    clear c6
    have H' := qq.mk H
    clear H
    go_wp2
    go_meet
    case rel => exact ⟨_,(true),(by first | rfl | (simp;done) | (simp [*];done)),H',⟨by first | omega | exact Nat.le_refl _⟩,⟨by repeat (first | (with_reducible first | exact HB.out | apply qj | apply qz | apply qk) | exact HB.out)⟩⟩
   ·rw [if_neg c6] at H
    have c6b0 : decide (64 < (l1.length : Int)) = false := decide_eq_false c6
    have c6b1 : decide (64 < l1.length) = false := decide_eq_false (by omega)
    clear c6
    by_cases c7 : a2 < 1
    ·rw [if_pos c7] at H
     have c7b0 : decide (a2 < 1) = true := decide_eq_true c7
     clear c7
     have H' := qq.mk H
     clear H
     go_wp2
     go_meet
     case rel => exact ⟨_,(true),(by first | rfl | (simp;done) | (simp [*];done)),H',⟨by first | omega | exact Nat.le_refl _⟩,⟨by repeat (first | (with_reducible first | exact HB.out | apply qj | apply qz | apply qk) | exact HB.out)⟩⟩
    ·rw [if_neg c7] at H
     have c7b0 : decide (a2 < 1) = false := decide_eq_false c7
     clear c7
     have H' := qq.mk H
     clear H
     go_wp2
     go_meet
     case rel => exact ⟨_,(decide (a2 > 1000)),(by first | rfl | (simp;done) | (simp [*];done)),H',⟨by first | omega | exact Nat.le_refl _⟩,⟨by repeat (first | (with_reducible first | exact HB.out | apply qj | apply qz | apply qk) | exact HB.out)⟩⟩
 case rest =>
  clear HC4
  try clear c1
  try clear p2
  try clear c4
  try clear c5
  try clear c5b0
  try clear c5b1
  try clear c6
  try clear c6b0
  try clear c6b1
  try clear c7
  try clear c7b0
  obtain ⟨kq,x23_3,rfl,HA,HJ3,HB⟩ := hcut
  cases kq with
  | zero => exact absurd HA.out (by simp [qqz.j0])
  | succ kj3 =>
   have H := HA.out
   clear HA
   simp only [qqz.j0] at H
   by_cases c8 : x23_3 = true
   ·subst c8
    have H1 : (some ([] : List Int)) = some r := by rw [if_pos rfl] at H;exact H
    clear H
    have H := H1
    clear H1
    obtain rfl := Option.some.inj H
    go_wp2
    go_ret
    exact ⟨_,by first | rfl | (simp [*,kz,jx] <;> rfl),by first | exact Kd.R_nil _ _ _ _ _ | exact Kd.N_nil _ _ _ _ _ | exact Kd.V_nil _ _ _ _ _ | exact Kd.Q_nil _ _ _ _ _ | exact Kd.S_nil _ _ _ _ _,by repeat (first | (with_reducible first | exact HB.out | apply qj | apply qz | apply qk) | exact HB.out)⟩
   ·replace c8 := Bool.eq_false_iff.mpr c8
    subst c8
    have H1 : ((bytesOfS.f a0).bind fun t101 => ((xw.f kj3 t101 l1).bind fun t104 => (qqz.l0 kj3 a0 t104 (wrap64 (a2 - 1)) 0))) = some r := by rw [if_neg (show ¬ (false = true) by decide)] at H;exact H
    clear H
    have H := H1
    clear H1
    replace H := Option.bind_eq_some_iff.mp H
    obtain ⟨t101,A90,H⟩ := H
    replace H : ((xw.f kj3 t101 l1).bind fun t104 => (qqz.l0 kj3 a0 t104 (wrap64 (a2 - 1)) 0)) = some r := H
    have A9 := qq.mk A90
    clear A90
    replace H := Option.bind_eq_some_iff.mp H
    obtain ⟨t104,A100,H⟩ := H
    replace H : (qqz.l0 kj3 a0 t104 (wrap64 (a2 - 1)) 0) = some r := H
    have A10 := qq.mk A100
    clear A100
    have H' := qq.mk H
    clear H
    go_wp2_with (first | ((with_reducible refine gate_convert (src := 9) (dst := 26) rfl ?_);refine bytesGoesL_ (some 25) rfl rfl (s := a0) rfl rfl ?_;(with_reducible refine (bytesOfS.calls a0 t101 _ A9.out).mono ?_);rintro e w11 ⟨v102,rfl,ho0,hb⟩;refine ⟨_,rfl,?_⟩;have n0_ := qq.mk (Kd.V_lower (Kd.V_mono (ok' := fun k_ => True) ho0 (fun k_ hk_ => trivial)) (zw (by repeat (first | (with_reducible first | exact HB.out | apply qj | apply qz | apply qk) | exact HB.out))));have n1_ := qq.mk (zv (by repeat (first | (with_reducible first | exact HB.out | apply qj | apply qz | apply qk) | exact HB.out)) hb);clear HB;have HO103 := n0_;have HB := n1_;clear n0_ n1_;(try clear hb);(try clear hb2);(try clear hk);(try clear hi);(try clear ho0);obtain ⟨Ao12,co12,eo12⟩ := Kd.V_slice HO103.out;subst eo12) | ((with_reducible refine kj (f := 103) rfl ?_);refine goesL_ (some 27) rfl rfl Try.func103 (by kernel_rfl) rfl #[.slice Ao12 t101.length co12,.slice A1 l1.length c1] rfl (by (try simp only [List.map_toArray,List.map_cons,List.map_nil]);first | done | rfl | (simp only [List.length_drop,List.length_take];rfl)) ?_;(with_reducible refine (xw.calls kj3 _ _ t101 _ _ l1 t104 _ ?side1 ?side2 ?side3 ?side4 A10.out).mono ?_);(case side1 => repeat (first | exact (Kd.V_reads' HO103.out).2.2 | (with_reducible refine Kd.C_alloc ?_ _) | (with_reducible refine Kd.C_drewN ?_ _) | (with_reducible refine Kd.C_drew ?_)));(case side2 => exact (Kd.V_reads' HO103.out).2.1);(case side3 => repeat (first | exact (Kd.C_below HR1.out HB.out) | (with_reducible refine Kd.C_alloc ?_ _) | (with_reducible refine Kd.C_drewN ?_ _) | (with_reducible refine Kd.C_drew ?_)));(case side4 => exact HC1.out);rintro e w13 ⟨v105,rfl,ho0,hb⟩;refine ⟨_,rfl,?_⟩;have n0_ := qq.mk (Kd.V_elder' (by (with_reducible repeat (first | apply Kd.wq | apply Kd.vx | apply Kd.wz));exact HO103.out) (Kd.R_base ho0) hb);have n1_ := qq.mk (Kd.R_lower ho0 (zw (by repeat (first | (with_reducible first | exact HB.out | apply qj | apply qz | apply qk) | exact HB.out))));have n2_ := qq.mk (zv (by repeat (first | (with_reducible first | exact HB.out | apply qj | apply qz | apply qk) | exact HB.out)) hb);clear HO103;clear HB;have HO103 := n0_;have HO106 := n1_;have HB := n2_;clear n0_ n1_ n2_;(try clear hb);(try clear hb2);(try clear hk);(try clear hi);(try clear ho0)))
    go_loopg [7,30] kj3 (fun kq v7 v30 w' => ∃ (x7_2 : List Int) (x30_2 : Int),v30 = .int .i64 x30_2 ∧ qq (qqz.l0 kq a0 x7_2 (wrap64 (a2 - 1)) x30_2 = some r) ∧ qq (kq ≤ kj3) ∧ qq (Kd.R (Kd.int .u8) 5 w' w.heap.size (fun _ => True) v7 x7_2) ∧ qq (Below w.heap.size w w'))
    case atStart => exact ⟨(t104),(0),(by first | rfl | (simp;done) | (simp [*];done)),H',⟨Nat.le_refl _⟩,⟨by (with_reducible repeat (first | apply Kd.jq | apply Kd.zx | apply Kd.jz));exact HO106.out⟩,⟨by repeat (first | (with_reducible first | exact HB.out | apply qj | apply qz | apply qk) | exact HB.out)⟩⟩
    case round =>
     clear H'
     try clear c1
     try clear p2
     try clear c4
     try clear c5
     try clear c5b0
     try clear c5b1
     try clear c6
     try clear c6b0
     try clear c6b1
     try clear p6
     try clear c7
     try clear c7b0
     try clear c8
     try clear c10
     try clear p2
     obtain ⟨x7_2,x30_2,rfl,HA,HK2,HO_7,HB⟩ := hrel
     cases gk with
     | zero => exact absurd HA.out (by simp [qqz.l0])
     | succ k2 =>
      have H := HA.out
      clear HA
      simp only [qqz.l0] at H
      by_cases c14 : x30_2 < (wrap64 (a2 - 1))
      ·rw [if_pos c14] at H
       have c14b0 : decide (x30_2 < (wrap64 (a2 - 1))) = true := decide_eq_true c14
       clear c14
       replace H := Option.bind_eq_some_iff.mp H
       obtain ⟨t107,A150,H⟩ := H
       replace H : ((xw.f k2 t107 x7_2).bind fun t110 => (qqz.l0 k2 a0 t110 (wrap64 (a2 - 1)) (wrap64 (x30_2 + 1)))) = some r := H
       have A15 := qq.mk A150
       clear A150
       replace H := Option.bind_eq_some_iff.mp H
       obtain ⟨t110,A160,H⟩ := H
       replace H : (qqz.l0 k2 a0 t110 (wrap64 (a2 - 1)) (wrap64 (x30_2 + 1))) = some r := H
       have A16 := qq.mk A160
       clear A160
       have H' := qq.mk H
       clear H
       go_wp2_with (first | ((with_reducible refine gate_convert (src := 9) (dst := 26) rfl ?_);refine bytesGoesL_ (some 33) rfl rfl (s := a0) rfl rfl ?_;(with_reducible refine (bytesOfS.calls a0 t107 _ A15.out).mono ?_);rintro e w17 ⟨v108,rfl,ho0,hb⟩;refine ⟨_,rfl,?_⟩;have n0_ := qq.mk (Kd.R_below (by (with_reducible repeat (first | apply Kd.jq | apply Kd.zx | apply Kd.jz));exact HO_7.out) hb);have n1_ := qq.mk (Kd.V_lower (Kd.V_mono (ok' := fun k_ => some k_ ≠ (u7 : Value).ownBlock) ho0 (fun k_ hk_ => (Kd.fresh' (Kd.R_lt (by (with_reducible repeat (first | apply Kd.jq | apply Kd.zx | apply Kd.jz));exact HO_7.out)) k_ hk_))) (zw (by repeat (first | (with_reducible first | exact HB.out | apply qj | apply qz | apply qk) | exact HB.out))));have n2_ := qq.mk (zv (by repeat (first | (with_reducible first | exact HB.out | apply qj | apply qz | apply qk) | exact HB.out)) hb);clear HO_7;clear HB;have HO_7 := n0_;have HO109 := n1_;have HB := n2_;clear n0_ n1_ n2_;(try clear hb);(try clear hb2);(try clear hk);(try clear hi);(try clear ho0);obtain ⟨Ao18,co18,eo18⟩ := Kd.V_slice HO109.out;subst eo18;obtain ⟨Ao19,co19,eo19⟩ := Kd.R_slice HO_7.out;subst eo19) | ((with_reducible refine kj (f := 103) rfl ?_);refine goesL_ (some 35) rfl rfl Try.func103 (by kernel_rfl) rfl #[.slice Ao18 t107.length co18,.slice Ao19 x7_2.length co19] rfl (by (try simp only [List.map_toArray,List.map_cons,List.map_nil]);first | done | rfl | (simp only [List.length_drop,List.length_take];rfl)) ?_;(with_reducible refine (xw.calls k2 _ _ t107 _ _ x7_2 t110 _ ?side1 ?side2 ?side3 ?side4 A16.out).mono ?_);(case side1 => repeat (first | exact (Kd.V_reads' HO109.out).2.2 | (with_reducible refine Kd.C_alloc ?_ _) | (with_reducible refine Kd.C_drewN ?_ _) | (with_reducible refine Kd.C_drew ?_)));(case side2 => exact (Kd.V_reads' HO109.out).2.1);(case side3 => repeat (first | exact (Kd.R_reads' HO_7.out).2.2 | (with_reducible refine Kd.C_alloc ?_ _) | (with_reducible refine Kd.C_drewN ?_ _) | (with_reducible refine Kd.C_drew ?_)));(case side4 => exact (Kd.R_reads' HO_7.out).2.1);rintro e w20 ⟨v111,rfl,ho0,hb⟩;refine ⟨_,rfl,?_⟩;have n0_ := qq.mk (Kd.R_elder' (by (with_reducible repeat (first | apply Kd.jq | apply Kd.zx | apply Kd.jz));exact HO_7.out) (Kd.R_base ho0) hb);have n1_ := qq.mk (Kd.V_elder' (by (with_reducible repeat (first | apply Kd.wq | apply Kd.vx | apply Kd.wz));exact HO109.out) (Kd.R_base ho0) hb);have n2_ := qq.mk (Kd.R_lower (Kd.R_new' ho0 (Kd.R_lt (by (with_reducible repeat (first | apply Kd.jq | apply Kd.zx | apply Kd.jz));exact HO_7.out))) (zw (by repeat (first | (with_reducible first | exact HB.out | apply qj | apply qz | apply qk) | exact HB.out))));have n3_ := qq.mk (zv (by repeat (first | (with_reducible first | exact HB.out | apply qj | apply qz | apply qk) | exact HB.out)) hb);clear HO_7;clear HO109;clear HB;have HO_7 := n0_;have HO109 := n1_;have HO112 := n2_;have HB := n3_;clear n0_ n1_ n2_ n3_;(try clear hb);(try clear hb2);(try clear hk);(try clear hi);(try clear ho0)))
       go_roundg k2
       case measure => have := HJ3.out;have := HK2.out;omega
       case rel => exact ⟨(t110),(wrap64 (x30_2 + 1)),(by first | rfl | (simp;done) | (simp [*];done)),H',⟨by have := HJ3.out;have := HK2.out;omega⟩,⟨by (with_reducible repeat (first | apply Kd.jq | apply Kd.zx | apply Kd.jz));exact Kd.R_mono HO112.out (fun _ hk => trivial)⟩,⟨by repeat (first | (with_reducible first | exact HB.out | apply qj | apply qz | apply qk) | exact HB.out)⟩⟩
      ·rw [if_neg c14] at H
       have c14b0 : decide (x30_2 < (wrap64 (a2 - 1))) = false := decide_eq_false c14
       clear c14
       obtain rfl := Option.some.inj H
       go_wp2
       go_ret
       exact ⟨_,by first | rfl | (simp [*,kz,jx] <;> rfl),by (with_reducible repeat (first | apply Kd.jq | apply Kd.zx | apply Kd.jz));exact HO_7.out,by repeat (first | (with_reducible first | exact HB.out | apply qj | apply qz | apply qk) | exact HB.out)⟩
end Go.Proofs.Ytgolcojhnklfdaa.Pr
namespace Go.Proofs.Ytgolcojhnklfdaa.Pr
open Go.RowKit Go.Proofs.YtgolcojhnklfdaaW.PrintWords Go.Proofs.YtgolcojhnklfdaaW.PrintLast Go.Proofs.YtgolcojhnklfdaaW.PrintMore
attribute [local go_sem] max2_int min2_int max_two min_two max_three min_three max_four min_four
set_option linter.unusedVariables false
set_option linter.unusedSimpArgs false
def xq.f (l0 : List Int) (l1 : List Int) : Option (Bool) := some ((strOfNums l0).toList == (strOfNums l1).toList)
set_option maxHeartbeats 8000000 in
set_option maxRecDepth 100000 in
theorem xq.calls (A0 : Option Addr) (c0 : Nat) (l0 : List Int) (A1 : Option Addr) (c1 : Nat) (l1 : List Int) (r : Bool) (w : World) (hr0 : Kd.C (Kd.int .u8) w A0 l0.length l0) (hc0 : l0.length ≤ c0) (hr1 : Kd.C (Kd.int .u8) w A1 l1.length l1) (hc1 : l1.length ≤ c1) (h : xq.f l0 l1 = some r) :
  Calls Try.prog 105 #[.slice A0 l0.length c0,.slice A1 l1.length c1] w fun e w' => e = .returned (.bool r) ∧ Drawn0 w w' := by
 have HR0 := qq.mk hr0
 have HC0 := qq.mk hc0
 clear hr0 hc0
 have HR1 := qq.mk hr1
 have HC1 := qq.mk hc1
 clear hr1 hc1
 have H : (some ((strOfNums l0).toList == (strOfNums l1).toList)) = some r := h
 clear h
 obtain rfl := Option.some.inj H
 have hcv3 := Kd.C_string (P := Try.prog) (A := A0) (c := c0) Try.underlying26 Try.underlying5 Try.underlying9 HR0.out
 have hcv4 := Kd.C_string (P := Try.prog) (A := A1) (c := c1) Try.underlying26 Try.underlying5 Try.underlying9 HR1.out
 go_enter Try.func105,Try.ntmps105
 go_wp2
 go_ret
 exact ⟨by first | rfl | (simp;done) | (simp [*];done),by repeat (first | exact Drawn0.refl _ | apply Drawn0.step)⟩
end Go.Proofs.Ytgolcojhnklfdaa.Pr
namespace Go.Proofs.Ytgolcojhnklfdaa.Pr
open Go.RowKit Go.Proofs.YtgolcojhnklfdaaW.PrintWords Go.Proofs.YtgolcojhnklfdaaW.PrintLast Go.Proofs.YtgolcojhnklfdaaW.PrintMore
set_option linter.unusedVariables false
set_option linter.unusedSimpArgs false
theorem pMixN_len (a : List Int) (x : Int) : ∀ n,(mixN a x n).length = a.length := fun n => mix_len a x n
theorem pAll_length : ∀ (l a : List Int),(dgAll a l).length = a.length
 | [],a => rfl
 | x :: l,a => by
  show (dgAll (dgMix a x) l).length = _
  rw [pAll_length l (dgMix a x)]
  exact pMixN_len a x 4
theorem pYb_len : ∀ a : List Int,(a.flatMap yb).length = 4 * a.length
 | [] => rfl
 | x :: a => by
  rw [List.flatMap_cons,List.length_append,pYb_len a]
  simp only [yb,List.length_cons,List.length_nil]
  omega
theorem digest16 {l r : List Int} (hl : l.length ≤ 20000) (h : xv.f l = some r) : r.length = 16 := by
 unfold xv.f at h
 by_cases hb : isBytes l
 case neg => rw [if_neg hb] at h;cases h
 rw [if_pos hb,if_neg (by omega)] at h
 obtain rfl := Option.some.inj h
 rw [dg,pYb_len,dgS,pAll_length,pAll_length,pAll_length]
 simp
theorem mac16 {k : Nat} {a b r : List Int} (ha : a.length ≤ 20000) (hb : b.length ≤ 20000) (h : xw.f k a b = some r) : r.length = 16 := by
 unfold xw.f at h
 rw [if_neg (by omega),decide_eq_false (by omega)] at h
 cases k with
 | zero => simp [xw.j0] at h
 | succ k =>
  simp only [xw.j0,Bool.false_eq_true,if_false] at h
  obtain ⟨t1,h1,h⟩ := Option.bind_eq_some_iff.1 h
  obtain ⟨t2,h2,h⟩ := Option.bind_eq_some_iff.1 h
  split at h
  ·obtain ⟨t3,h3,h⟩ := Option.bind_eq_some_iff.1 h
   obtain rfl := Option.some.inj h
   exact digest16 (by rw [List.length_append,digest16 ha h1,digest16 hb h2];omega) h3
  ·cases h
theorem bytesS_len {s : ByteArray} {t : List Int} (h : bytesOfS.f s = some t) : t.length = s.size := by
 unfold bytesOfS.f at h
 split at h
 ·obtain rfl := Option.some.inj h;exact bytesOf_length s
 ·cases h
theorem pass_l0 {a0 : ByteArray} (ha : a0.size ≤ 20000) {n : Int} {r : List Int} : ∀ (k : Nat) (x7 : List Int) (i : Int),x7.length = 16 → qqz.l0 k a0 x7 n i = some r → r.length = 16
 | 0,_,_,_,h => by simp [qqz.l0] at h
 | k + 1,x7,i,hx,h => by
  simp only [qqz.l0] at h
  split at h
  ·obtain ⟨t1,h1,h⟩ := Option.bind_eq_some_iff.1 h
   obtain ⟨t2,h2,h⟩ := Option.bind_eq_some_iff.1 h
   exact pass_l0 ha k t2 _ (mac16 (by rw [bytesS_len h1];exact ha) (by omega) h2) h
  ·obtain rfl := Option.some.inj h;exact hx
def passOk (a0 : ByteArray) (l1 : List Int) (a2 : Int) : Prop := a0.size ≤ 64 ∧ l1.length ≤ 64 ∧ 1 ≤ a2 ∧ a2 ≤ 1000
theorem pass16 {k : Nat} {a0 : ByteArray} {l1 : List Int} {a2 : Int} {r : List Int} (g : passOk a0 l1 a2) (h : qqz.f k a0 l1 a2 = some r) : r.length = 16 := by
 obtain ⟨g1,g2,g3,g4⟩ := g
 unfold qqz.f at h
 rw [if_neg (by omega),if_neg (by omega),if_neg (by omega),decide_eq_false (by omega)] at h
 cases k with
 | zero => simp [qqz.j0] at h
 | succ k =>
  simp only [qqz.j0,Bool.false_eq_true,if_false] at h
  obtain ⟨t1,h1,h⟩ := Option.bind_eq_some_iff.1 h
  obtain ⟨t2,h2,h⟩ := Option.bind_eq_some_iff.1 h
  exact pass_l0 (by omega) k t2 _ (mac16 (by rw [bytesS_len h1];omega) (by omega) h2) h
theorem pass0 {k : Nat} {a0 : ByteArray} {l1 : List Int} {a2 : Int} {r : List Int} (g : ¬ passOk a0 l1 a2) (h : qqz.f k a0 l1 a2 = some r) : r = [] := by
 have hj : ∀ k,qqz.j0 k a0 l1 a2 true = some r → r = [] := fun k h => by
  cases k with
  | zero => simp [qqz.j0] at h
  | succ k => simp only [qqz.j0,if_true] at h;exact (Option.some.inj h).symm
 unfold qqz.f at h
 split at h
 ·exact hj _ h
 ·split at h
  ·exact hj _ h
  ·split at h
   ·exact hj _ h
   ·have : decide (a2 > 1000) = true := decide_eq_true (Int.not_le.1 (fun h4 => g ⟨by omega,by omega,by omega,h4⟩))
    rw [this] at h
    exact hj _ h
set_option maxHeartbeats 4000000 in
set_option maxRecDepth 100000 in
theorem passNil_calls (a0 : ByteArray) (A1 : Option Addr) (c1 n1 : Nat) (a2 : Int) (w : World) (g : ¬ (a0.size ≤ 64 ∧ n1 ≤ 64 ∧ 1 ≤ a2 ∧ a2 ≤ 1000)) :
  Calls Try.prog 44 #[.string a0,.slice A1 n1 c1,.int .i64 a2] w fun e w' => e = .returned (.slice none 0 0) ∧ Below w.heap.size w w' := by
 go_enter Try.func44,Try.ntmps44
 by_cases c1' : 64 < (a0.size : Int)
 ·have d1 : decide (64 < (a0.size : Int)) = true := decide_eq_true c1'
  have d2 : decide (64 < a0.size) = true := decide_eq_true (by omega)
  go_wp2
  go_ret
  exact ⟨rfl,Below.refl _ _⟩
 ·have d1 : decide (64 < (a0.size : Int)) = false := decide_eq_false c1'
  have d2 : decide (64 < a0.size) = false := decide_eq_false (by omega)
  by_cases c2 : 64 < (n1 : Int)
  ·have d3 : decide (64 < (n1 : Int)) = true := decide_eq_true c2
   have d4 : decide (64 < n1) = true := decide_eq_true (by omega)
   go_wp2
   go_ret
   exact ⟨rfl,Below.refl _ _⟩
  ·have d3 : decide (64 < (n1 : Int)) = false := decide_eq_false c2
   have d4 : decide (64 < n1) = false := decide_eq_false (by omega)
   by_cases c3 : a2 < 1
   ·have d5 : decide (a2 < 1) = true := decide_eq_true c3
    go_wp2
    go_ret
    exact ⟨rfl,Below.refl _ _⟩
   ·have d5 : decide (a2 < 1) = false := decide_eq_false c3
    have c4 : 1000 < a2 := Int.not_le.1 (fun h4 => g ⟨by omega,by omega,by omega,h4⟩)
    have d6 : decide (1000 < a2) = true := decide_eq_true c4
    go_wp2
    go_ret
    exact ⟨rfl,Below.refl _ _⟩
def xx.f (k : Nat) (l0 : List Int) (a1 : Int) (l2 : List Int) (p : ByteArray) : Option Bool := (qqz.f k p l0 a1).bind fun t => if t.length = 0 then some false else some ((strOfNums t).toList == (strOfNums l2).toList)
set_option maxHeartbeats 4000000 in
set_option maxRecDepth 100000 in
theorem xx.calls (k : Nat) (A0_0 : Option Addr) (c0_0 : Nat) (l0_0 : List Int) (a0_1 : Int) (A0_2 : Option Addr) (c0_2 : Nat) (l0_2 : List Int) (a1 : ByteArray) (r : Bool) (w : World) (hr0_0 : Kd.C (Kd.int .u8) w A0_0 l0_0.length l0_0) (hc0_0 : l0_0.length ≤ c0_0) (hr0_2 : Kd.C (Kd.int .u8) w A0_2 l0_2.length l0_2) (hc0_2 : l0_2.length ≤ c0_2) (h : xx.f k l0_0 a0_1 l0_2 a1 = some r) :
  Calls Try.prog 47 #[.agg #[.slice A0_0 l0_0.length c0_0,.int .i64 a0_1,.slice A0_2 l0_2.length c0_2],.string a1] w fun e w' => e = .returned (.bool r) ∧ Below w.heap.size w w' := by
 unfold xx.f at h
 obtain ⟨t,ht,h⟩ := Option.bind_eq_some_iff.1 h
 have HT := qq.mk ht
 have HR0 := qq.mk (Kd.C_alloc hr0_0 (.cells #[.slice A0_0 l0_0.length c0_0,.int .i64 a0_1,.slice A0_2 l0_2.length c0_2] 82 (0,0)))
 have HR2 := qq.mk (Kd.C_alloc hr0_2 (.cells #[.slice A0_0 l0_0.length c0_0,.int .i64 a0_1,.slice A0_2 l0_2.length c0_2] 82 (0,0)))
 have HB0 : qq (Below w.heap.size w (w.alloc (.cells #[.slice A0_0 l0_0.length c0_0,.int .i64 a0_1,.slice A0_2 l0_2.length c0_2] 82 (0,0)))) := ⟨qj (Below.refl _ _) _⟩
 have HK0 := qq.mk (blk_new w (.cells #[.slice A0_0 l0_0.length c0_0,.int .i64 a0_1,.slice A0_2 l0_2.length c0_2] 82 (0,0)))
 have HC0 := qq.mk hc0_0
 have HC2 := qq.mk hc0_2
 have qN : ∀ (W : World) (a : Option Addr) (n c : Nat),(binOp .neq 26 (.slice a n c) (.slice none 0 0)).run Try.prog W = .ok (.bool (!a.isNone)) W := fun W a n c => run_neq_slice_nil_any W _ _ a n c 0 0 Try.underlying26
 clear hr0_0 hr0_2 ht
 by_cases g : passOk a1 l0_0 a0_1
 ·have h16 := pass16 g HT.out
  rw [if_neg (by omega)] at h
  have HEQ := qq.mk h
  have H16 := qq.mk h16
  clear h h16 g
  go_enter Try.func47,Try.ntmps47
  go_wp2_with (go_at_call 44;refine (qqz.calls k a1 A0_0 c0_0 l0_0 a0_1 t _ HR0.out HC0.out HT.out).mono ?_)
  rintro e w1 ⟨v,rfl,hR,hB⟩
  obtain ⟨gr,cp,hv,_⟩ := Kd.R_form hR (by have := H16.out;omega)
  subst hv
  have HR1 := qq.mk (Kd.R_reads' hR)
  have HB1 : qq (Below w.heap.size w w1) := ⟨HB0.out.trans (hB.mono (by show w.heap.size ≤ (w.alloc _).heap.size;exact HB0.out.size))⟩
  have HK1 := qq.mk (wj HK0.out hB)
  have HR3 := qq.mk (Kd.C_below HR2.out hB)
  clear hR hB
  obtain ⟨B,eB⟩ : ∃ B,B = w.heap.size := ⟨_,rfl⟩
  rw [← eB] at HK1
  have hc2 : w1.cell? ⟨w.heap.size,2,none⟩ = some (.slice A0_2 l0_2.length c0_2) := by rw [← eB];exact (qw HK1.out 2).trans rfl
  have hne : (some (⟨gr,0,none⟩ : Addr)).isNone = false := rfl
  clear eB
  go_wp2_with (go_at_call 105;refine (xq.calls _ _ t A0_2 c0_2 l0_2 r _ HR1.out.2.2 HR1.out.2.1 HR3.out HC2.out HEQ.out).mono ?_;rintro e w' ⟨rfl,⟨⟨nd,rfl⟩⟩⟩)
  try go_wp2
  go_ret
  exact ⟨rfl,qz HB1.out nd⟩
 ·have h0 := pass0 g HT.out
  rw [if_pos (by rw [h0];rfl)] at h
  obtain rfl := Option.some.inj h
  have HG := qq.mk g
  clear h h0 g
  go_enter Try.func47,Try.ntmps47
  go_wp2_with (go_at_call 44;refine (passNil_calls a1 A0_0 c0_0 l0_0.length a0_1 _ HG.out).mono ?_)
  rintro e w1 ⟨rfl,hB⟩
  have HB1 : qq (Below w.heap.size w w1) := ⟨HB0.out.trans (hB.mono (by show w.heap.size ≤ (w.alloc _).heap.size;exact HB0.out.size))⟩
  clear hB
  have hne : (none : Option Addr).isNone = true := rfl
  go_wp2
  go_ret
  exact ⟨rfl,HB1.out⟩
end Go.Proofs.Ytgolcojhnklfdaa.Pr
namespace Go.Proofs.Ytgolcojhnklfdaa.Pr
open Go.RowKit Go.Shelf Go.Proofs.YtgolcojhnklfdaaW.PrintWords Go.Proofs.YtgolcojhnklfdaaW.PrintLast Go.Proofs.YtgolcojhnklfdaaW.PrintMore
set_option linter.unusedVariables false
set_option maxRecDepth 100000
def cntsF (x : Nat) : Nat := if x = 144 then 78 else if x = 143 then 127 else if x = 219 then 141 else if x = 217 then 145 else if x = 225 then 146 else if x = 224 then 147 else if x = 267 then 148 else if x = 266 then 149 else if x = 314 then 150 else x
def cntsT (x : Nat) : Nat := if x = 9 then 9 else if x = 4 then 4 else if x = 3 then 3 else if x = 5 then 5 else if x = 46 then 132 else if x = 146 then 161 else if x = 51 then 160 else x
def cntsG (x : Nat) : Nat := if x = 1 then 0 else x
def cntsRen : Ren := ⟨cntsF,cntsT,cntsG⟩
theorem cntsLays : Lays.n144 Try.prog cntsRen where
 mixed := by kernel_rfl
 f143 := Try.func127.trans (congrArg some (by kernel_rfl))
 f144 := Try.func78.trans (congrArg some (by kernel_rfl))
 f217 := Try.func145.trans (congrArg some (by kernel_rfl))
 f219 := Try.func141.trans (congrArg some (by kernel_rfl))
 f224 := Try.func147.trans (congrArg some (by kernel_rfl))
 f225 := Try.func146.trans (congrArg some (by kernel_rfl))
 f266 := Try.func149.trans (congrArg some (by kernel_rfl))
 f267 := Try.func148.trans (congrArg some (by kernel_rfl))
 f314 := Try.func150.trans (congrArg some (by kernel_rfl))
 t3 := Try.underlying3
 a3 := Try.isAgg3
 z3 := Try.sizeOf3
 v3 := Try.zeroValue3
 t4 := Try.underlying4
 a4 := Try.isAgg4
 z4 := Try.sizeOf4
 v4 := Try.zeroValue4
 t5 := Try.underlying5
 a5 := Try.isAgg5
 z5 := Try.sizeOf5
 v5 := Try.zeroValue5
 t9 := Try.underlying9
 a9 := Try.isAgg9
 z9 := Try.sizeOf9
 v9 := Try.zeroValue9
 t46 := Try.underlying132
 a46 := Try.isAgg132
 z46 := Try.sizeOf132
 v46 := Try.zeroValue132
 t51 := Try.underlying160
 a51 := Try.isAgg160
 z51 := Try.sizeOf160
 v51 := Try.zeroValue160
 t146 := Try.underlying161
 a146 := Try.isAgg161
 z146 := Try.sizeOf161
 v146 := Try.zeroValue161
 g1 := by kernel_rfl
def TabW (w : World) : Prop := ∃ m : Int,w.cell? ⟨0,0,none⟩ = some (.int .i64 m)
theorem TabW_below {w w' : World} (h : TabW w) (hb : Below w.heap.size w w') : TabW w' := by
 obtain ⟨m,hm⟩ := h
 exact ⟨m,(World.cell?_of_block (hb.block 0 (World.block_lt_of_cell? w _ hm))).trans hm⟩
theorem TabW_drewN {w : World} (h : TabW w) (n : Nat) : TabW (w.drewN n) := TabW_below h (qz (Below.refl _ _) _)
theorem TabW_drew {w : World} (h : TabW w) : TabW w.drew := TabW_below h (below_drew (Below.refl _ _))
theorem TabW_alloc {w : World} (h : TabW w) (o : Obj) : TabW (w.alloc o) := TabW_below h (qj (Below.refl _ _) _)
def strings_Contains.f (s sub : ByteArray) : Option Bool := if s.size < 4294967281 then some (Lib.contains s.data.toList sub.data.toList) else none
theorem strings_Contains.calls (a0 a1 : ByteArray) (r : Bool) (w : World) (htab : TabW w) (h : strings_Contains.f a0 a1 = some r) :
  Calls Try.prog 78 #[.string a0,.string a1] w fun e w' => e = .returned (.bool r) ∧ Drawn0 w w' := by
 unfold strings_Contains.f at h
 by_cases hr : a0.size < 4294967281
 case neg => rw [if_neg hr] at h;cases h
 rw [if_pos hr] at h
 obtain rfl := Option.some.inj h
 obtain ⟨m,hm⟩ := htab
 refine (Any.strings_Contains cntsLays a0 a1 m w hr hm).mono ?_
 rintro e w' ⟨rfl,rfl⟩
 exact ⟨rfl,Drawn0.refl _⟩
end Go.Proofs.Ytgolcojhnklfdaa.Pr
namespace Go.Proofs.Ytgolcojhnklfdaa.Pr
open Go.RowKit Go.Proofs.YtgolcojhnklfdaaW.PrintWords Go.Proofs.YtgolcojhnklfdaaW.PrintLast Go.Proofs.YtgolcojhnklfdaaW.PrintMore
set_option linter.unusedVariables false
set_option linter.unusedSimpArgs false
def upU (b : UInt8) : UInt8 := if 97 ≤ b.toNat ∧ b.toNat ≤ 122 then UInt8.ofNat (b.toNat - 32) else b
def upperB (s : ByteArray) : ByteArray := ⟨(s.data.toList.map upU).toArray⟩
def upX (s : ByteArray) (i j : Nat) : Int := if j < i then ((upU (s.data.toList.getD j 0)).toNat : Int) else ((s.data.toList.getD j 0).toNat : Int)
theorem upX_same (s : ByteArray) (i j : Nat) (h : j ≠ i) : upX s (i + 1) j = upX s i j := by
 unfold upX
 by_cases hj : j < i
 ·rw [if_pos hj,if_pos (by omega)]
 ·rw [if_neg hj,if_neg (by omega)]
theorem upX_at (s : ByteArray) (i : Nat) : upX s i i = ((s.data.toList.getD i 0).toNat : Int) := if_neg (by omega)
theorem upX_low (s : ByteArray) (i : Nat) (h : 97 ≤ upX s i i ∧ upX s i i ≤ 122) : upX s (i + 1) i = upX s i i - 32 := by
 rw [upX_at] at h ⊢
 unfold upX
 rw [if_pos (by omega)]
 unfold upU
 rw [if_pos (by omega)]
 have : (UInt8.ofNat ((s.data.toList.getD i 0).toNat - 32)).toNat = (s.data.toList.getD i 0).toNat - 32 := by
  rw [UInt8.toNat_ofNat']
  omega
 rw [this]
 omega
theorem upX_keep (s : ByteArray) (i : Nat) (h : ¬ (97 ≤ upX s i i ∧ upX s i i ≤ 122)) : upX s (i + 1) i = upX s i i := by
 rw [upX_at] at h ⊢
 unfold upX
 rw [if_pos (by omega)]
 unfold upU
 rw [if_neg (by omega)]
theorem upX_rng (s : ByteArray) (i : Nat) : 0 ≤ upX s i i ∧ upX s i i ≤ 255 := by
 rw [upX_at]
 have := (s.data.toList.getD i 0).toNat_lt
 omega
theorem upper_str (s : ByteArray) : strOfNums ((List.range s.size).map fun j => upX s s.size j) = upperB s := by
 unfold strOfNums upperB
 congr 2
 apply List.ext_getElem
 ·simp
 ·intro i h1 h2
  simp only [List.length_map,List.length_range] at h1
  simp only [List.getElem_map,List.getElem_range]
  have hl : i < s.data.toList.length := by rw [data_length];exact h1
  unfold upX
  rw [if_pos h1,Int.toNat_natCast,UInt8.ofNat_toNat,List.getD_eq_getElem?_getD,List.getElem?_eq_getElem hl]
  rfl
theorem wrap_upP {i n : Nat} (h : i < n) (hn : n ≤ 1000000) : wrap64 ((i : Int) + 1) = ((i + 1 : Nat) : Int) := by
 unfold wrap64
 omega
def qwj.f (s : ByteArray) : Option ByteArray := if s.size ≤ 1000000 then some (upperB s) else none
set_option maxHeartbeats 4000000 in
set_option maxRecDepth 100000 in
theorem qwj.calls (a0 : ByteArray) (r : ByteArray) (w : World) (h : qwj.f a0 = some r) :
  Calls Try.prog 72 #[.string a0] w fun e w' => e = .returned (.string r) ∧ Below w.heap.size w w' := by
 unfold qwj.f at h
 by_cases hs : a0.size ≤ 1000000
 case neg => rw [if_neg hs] at h;cases h
 rw [if_pos hs] at h
 obtain rfl := Option.some.inj h
 clear h
 have HL := qq.mk hs
 obtain ⟨W0,eW0⟩ : ∃ W0,W0 = Lib.bytesWorld w 5 a0 := ⟨_,rfl⟩
 obtain ⟨cap,ecap⟩ : ∃ c,c = grownCap w a0.size 0 5 := ⟨_,rfl⟩
 have hcap : a0.size ≤ cap := by rw [ecap];exact grownCap_ge _ _ _ _
 have kb : (convert 9 26 (.string a0)).run Try.prog w = .ok (.slice (some ⟨w.heap.size,0,none⟩) a0.size cap) W0 := by
  rw [eW0,ecap]
  exact print_bytes 9 26 5 Try.underlying9 Try.underlying26 Try.underlying5 a0 w
 have HB0 : qq (Below w.heap.size w W0) := ⟨by rw [eW0];exact xz (Below.refl _ _) (Nat.le_refl _) 5 a0⟩
 have HC0 : qq (∀ j,j < a0.size → W0.cell? ⟨w.heap.size,j,none⟩ = some (.int .u8 (upX a0 0 j))) := ⟨fun j hj => by rw [eW0,Lib.bytesWorld_cell _ _ _ _ hj];rfl⟩
 have HF0 : qq (∀ j,j < a0.size → W0.frozen? ⟨w.heap.size,j,none⟩ = false) := ⟨fun j hj => by
  rw [eW0]
  simp [World.frozen?,Lib.bytesWorld_at_new,Lib.bytesCells]
  omega⟩
 obtain ⟨B,eB⟩ : ∃ B,B = w.heap.size := ⟨_,rfl⟩
 rw [← eB] at kb HC0 HF0
 have HEB := qq.mk eB
 clear eW0 ecap eB hs
 go_enter Try.func72,Try.ntmps72
 go_wp2
 go_loopw [10] (fun v10 W => ∃ i : Nat,v10 = .int .i64 (i : Int) ∧ qq (i ≤ a0.size) ∧ qq (Below w.heap.size w W) ∧ qq (∀ j,j < a0.size → W.cell? ⟨B,j,none⟩ = some (.int .u8 (upX a0 i j))) ∧ qq (∀ j,j < a0.size → W.frozen? ⟨B,j,none⟩ = false)) (fun v10 _ => a0.size - (intOf v10).toNat)
 case atStart => exact ⟨0,rfl,⟨Nat.zero_le _⟩,HB0,HC0,HF0⟩
 case round =>
  obtain ⟨i,rfl,HI,HB,HC,HF⟩ := hrel
  clear HB0 HC0 HF0
  by_cases hlt : i < a0.size
  ·have HLT := qq.mk hlt
   have hl1 : decide ((i : Int) < (a0.size : Int)) = true := decide_eq_true (by omega)
   have hl2 : decide (i < a0.size) = true := decide_eq_true hlt
   have hc := HC.out i hlt
   have hf := HF.out i hlt
   have hx := upX_rng a0 i
   have HK := qq.mk (upX_keep a0 i)
   have HLW := qq.mk (upX_low a0 i)
   have e3 := wrap_upP hlt HL.out
   obtain ⟨x,ex⟩ : ∃ x,x = upX a0 i i := ⟨_,rfl⟩
   rw [← ex] at hc hx HK HLW
   have HEX := qq.mk ex
   clear ex
   have stay : ¬ (97 ≤ x ∧ x ≤ 122) → ∀ j,j < a0.size → wr.cell? ⟨B,j,none⟩ = some (.int .u8 (upX a0 (i + 1) j)) := fun hn j hj => by
    by_cases hji : j = i
    ·rw [hji,HK.out hn];exact hc
    ·rw [upX_same a0 i j hji];exact HC.out j hj
   have STAY := qq.mk stay
   clear stay
   by_cases c1 : 97 ≤ x
   ·by_cases c2 : x ≤ 122
    ·have e4 : IntKind.u8.wrap (x - 32) = x - 32 := by rw [IntKind.wrap_u8];omega
     have d1 : decide (97 ≤ x) = true := decide_eq_true c1
     have d2 : decide (x ≤ 122) = true := decide_eq_true c2
     have HV := qq.mk (HLW.out ⟨c1,c2⟩)
     have HW : qq (∀ j,j < a0.size → (wr.setCell ⟨B,i,none⟩ (.int .u8 (x - 32))).cell? ⟨B,j,none⟩ = some (.int .u8 (upX a0 (i + 1) j))) := ⟨fun j hj => by
      by_cases hji : j = i
      ·rw [hji,HV.out];exact World.cell?_setCell_same _ _ _ hc
      ·rw [World.cell?_setCell_other _ _ _ _ (by intro e;injection e with _ e _;exact hji e.symm),upX_same a0 i j hji];exact HC.out j hj⟩
     have HW2 : qq (∀ j,j < a0.size → (wr.setCell ⟨B,i,none⟩ (.int .u8 (x - 32))).frozen? ⟨B,j,none⟩ = false) := ⟨fun j hj => by rw [World.frozen?_setCell];exact HF.out j hj⟩
     have HW3 : qq (Below w.heap.size w (wr.setCell ⟨B,i,none⟩ (.int .u8 (x - 32)))) := ⟨qx HB.out (by rw [HEB.out];exact Nat.le_refl _)⟩
     clear HC HF HB STAY c1 c2 hx
     go_wp2
     try simp only [e3,e4]
     go_roundw
     case rel => exact ⟨i + 1,rfl,⟨HLT.out⟩,HW3,HW,HW2⟩
     case measure =>
      show a0.size - (((i + 1 : Nat) : Int)).toNat < a0.size - ((i : Int)).toNat
      rw [Int.toNat_natCast,Int.toNat_natCast]
      exact Nat.sub_lt_sub_left HLT.out (Nat.lt_succ_self i)
    ·have d1 : decide (97 ≤ x) = true := decide_eq_true c1
     have d2 : decide (x ≤ 122) = false := decide_eq_false c2
     have HV := qq.mk (STAY.out (fun h => c2 h.2))
     clear HC STAY c1 c2 hx
     go_wp2
     try simp only [e3]
     go_roundw
     case rel => exact ⟨i + 1,rfl,⟨HLT.out⟩,HB,HV,HF⟩
     case measure =>
      show a0.size - (((i + 1 : Nat) : Int)).toNat < a0.size - ((i : Int)).toNat
      rw [Int.toNat_natCast,Int.toNat_natCast]
      exact Nat.sub_lt_sub_left HLT.out (Nat.lt_succ_self i)
   ·have d1 : decide (97 ≤ x) = false := decide_eq_false c1
    have HV := qq.mk (STAY.out (fun h => c1 h.1))
    clear HC STAY c1 hx
    go_wp2
    try simp only [e3]
    go_roundw
    case rel => exact ⟨i + 1,rfl,⟨HLT.out⟩,HB,HV,HF⟩
    case measure =>
     show a0.size - (((i + 1 : Nat) : Int)).toNat < a0.size - ((i : Int)).toNat
     rw [Int.toNat_natCast,Int.toNat_natCast]
     exact Nat.sub_lt_sub_left HLT.out (Nat.lt_succ_self i)
  ·obtain rfl : i = a0.size := by have := HI.out;omega
   have hl1 : decide ((a0.size : Int) < (a0.size : Int)) = false := decide_eq_false (by omega)
   have hl2 : decide (a0.size < a0.size) = false := decide_eq_false (by omega)
   have hcv : (convert 26 9 (.slice (some ⟨B,0,none⟩) a0.size cap)).run Try.prog wr = .ok (.string (upperB a0)) wr := by
    rw [← upper_str]
    refine run_convert_bytes_arg wr 26 5 Try.underlying26 Try.underlying5 B 0 a0.size cap ((List.range a0.size).map fun j => upX a0 a0.size j) (by simp) (fun j hj => ?_) 9 Try.underlying9
    have := HC.out j hj
    simpa [List.getD_eq_getElem?_getD,List.getElem?_map,List.getElem?_range hj] using this
   clear hlt HI
   go_wp2
   go_ret
   exact ⟨rfl,HB.out⟩
def qqk.f (s : ByteArray) : Option ByteArray := if s.size ≤ 1000000 then some (upperB s) else none
set_option maxHeartbeats 4000000 in
set_option maxRecDepth 100000 in
theorem qqk.calls (a0 : ByteArray) (r : ByteArray) (w : World) (h : qqk.f a0 = some r) :
  Calls Try.prog 79 #[.string a0] w fun e w' => e = .returned (.string r) ∧ Below w.heap.size w w' := by
 unfold qqk.f at h
 by_cases hs : a0.size ≤ 1000000
 case neg => rw [if_neg hs] at h;cases h
 rw [if_pos hs] at h
 obtain rfl := Option.some.inj h
 clear h
 have HL := qq.mk hs
 obtain ⟨W0,eW0⟩ : ∃ W0,W0 = Lib.bytesWorld w 5 a0 := ⟨_,rfl⟩
 obtain ⟨cap,ecap⟩ : ∃ c,c = grownCap w a0.size 0 5 := ⟨_,rfl⟩
 have hcap : a0.size ≤ cap := by rw [ecap];exact grownCap_ge _ _ _ _
 have kb : (convert 9 26 (.string a0)).run Try.prog w = .ok (.slice (some ⟨w.heap.size,0,none⟩) a0.size cap) W0 := by
  rw [eW0,ecap]
  exact print_bytes 9 26 5 Try.underlying9 Try.underlying26 Try.underlying5 a0 w
 have HB0 : qq (Below w.heap.size w W0) := ⟨by rw [eW0];exact xz (Below.refl _ _) (Nat.le_refl _) 5 a0⟩
 have HC0 : qq (∀ j,j < a0.size → W0.cell? ⟨w.heap.size,j,none⟩ = some (.int .u8 (upX a0 0 j))) := ⟨fun j hj => by rw [eW0,Lib.bytesWorld_cell _ _ _ _ hj];rfl⟩
 have HF0 : qq (∀ j,j < a0.size → W0.frozen? ⟨w.heap.size,j,none⟩ = false) := ⟨fun j hj => by
  rw [eW0]
  simp [World.frozen?,Lib.bytesWorld_at_new,Lib.bytesCells]
  omega⟩
 obtain ⟨B,eB⟩ : ∃ B,B = w.heap.size := ⟨_,rfl⟩
 rw [← eB] at kb HC0 HF0
 have HEB := qq.mk eB
 clear eW0 ecap eB hs
 go_enter Try.func79,Try.ntmps79
 go_wp2
 go_loopw [10] (fun v10 W => ∃ i : Nat,v10 = .int .i64 (i : Int) ∧ qq (i ≤ a0.size) ∧ qq (Below w.heap.size w W) ∧ qq (∀ j,j < a0.size → W.cell? ⟨B,j,none⟩ = some (.int .u8 (upX a0 i j))) ∧ qq (∀ j,j < a0.size → W.frozen? ⟨B,j,none⟩ = false)) (fun v10 _ => a0.size - (intOf v10).toNat)
 case atStart => exact ⟨0,rfl,⟨Nat.zero_le _⟩,HB0,HC0,HF0⟩
 case round =>
  obtain ⟨i,rfl,HI,HB,HC,HF⟩ := hrel
  clear HB0 HC0 HF0
  by_cases hlt : i < a0.size
  ·have HLT := qq.mk hlt
   have hl1 : decide ((i : Int) < (a0.size : Int)) = true := decide_eq_true (by omega)
   have hl2 : decide (i < a0.size) = true := decide_eq_true hlt
   have hc := HC.out i hlt
   have hf := HF.out i hlt
   have hx := upX_rng a0 i
   have HK := qq.mk (upX_keep a0 i)
   have HLW := qq.mk (upX_low a0 i)
   have e3 := wrap_upP hlt HL.out
   obtain ⟨x,ex⟩ : ∃ x,x = upX a0 i i := ⟨_,rfl⟩
   rw [← ex] at hc hx HK HLW
   have HEX := qq.mk ex
   clear ex
   have stay : ¬ (97 ≤ x ∧ x ≤ 122) → ∀ j,j < a0.size → wr.cell? ⟨B,j,none⟩ = some (.int .u8 (upX a0 (i + 1) j)) := fun hn j hj => by
    by_cases hji : j = i
    ·rw [hji,HK.out hn];exact hc
    ·rw [upX_same a0 i j hji];exact HC.out j hj
   have STAY := qq.mk stay
   clear stay
   by_cases c1 : 97 ≤ x
   ·by_cases c2 : x ≤ 122
    ·have e4 : IntKind.u8.wrap (x - 32) = x - 32 := by rw [IntKind.wrap_u8];omega
     have d1 : decide (97 ≤ x) = true := decide_eq_true c1
     have d2 : decide (x ≤ 122) = true := decide_eq_true c2
     have HV := qq.mk (HLW.out ⟨c1,c2⟩)
     have HW : qq (∀ j,j < a0.size → (wr.setCell ⟨B,i,none⟩ (.int .u8 (x - 32))).cell? ⟨B,j,none⟩ = some (.int .u8 (upX a0 (i + 1) j))) := ⟨fun j hj => by
      by_cases hji : j = i
      ·rw [hji,HV.out];exact World.cell?_setCell_same _ _ _ hc
      ·rw [World.cell?_setCell_other _ _ _ _ (by intro e;injection e with _ e _;exact hji e.symm),upX_same a0 i j hji];exact HC.out j hj⟩
     have HW2 : qq (∀ j,j < a0.size → (wr.setCell ⟨B,i,none⟩ (.int .u8 (x - 32))).frozen? ⟨B,j,none⟩ = false) := ⟨fun j hj => by rw [World.frozen?_setCell];exact HF.out j hj⟩
     have HW3 : qq (Below w.heap.size w (wr.setCell ⟨B,i,none⟩ (.int .u8 (x - 32)))) := ⟨qx HB.out (by rw [HEB.out];exact Nat.le_refl _)⟩
     clear HC HF HB STAY c1 c2 hx
     go_wp2
     try simp only [e3,e4]
     go_roundw
     case rel => exact ⟨i + 1,rfl,⟨HLT.out⟩,HW3,HW,HW2⟩
     case measure =>
      show a0.size - (((i + 1 : Nat) : Int)).toNat < a0.size - ((i : Int)).toNat
      rw [Int.toNat_natCast,Int.toNat_natCast]
      exact Nat.sub_lt_sub_left HLT.out (Nat.lt_succ_self i)
    ·have d1 : decide (97 ≤ x) = true := decide_eq_true c1
     have d2 : decide (x ≤ 122) = false := decide_eq_false c2
     have HV := qq.mk (STAY.out (fun h => c2 h.2))
     clear HC STAY c1 c2 hx
     go_wp2
     try simp only [e3]
     go_roundw
     case rel => exact ⟨i + 1,rfl,⟨HLT.out⟩,HB,HV,HF⟩
     case measure =>
      show a0.size - (((i + 1 : Nat) : Int)).toNat < a0.size - ((i : Int)).toNat
      rw [Int.toNat_natCast,Int.toNat_natCast]
      exact Nat.sub_lt_sub_left HLT.out (Nat.lt_succ_self i)
   ·have d1 : decide (97 ≤ x) = false := decide_eq_false c1
    have HV := qq.mk (STAY.out (fun h => c1 h.1))
    clear HC STAY c1 hx
    go_wp2
    try simp only [e3]
    go_roundw
    case rel => exact ⟨i + 1,rfl,⟨HLT.out⟩,HB,HV,HF⟩
    case measure =>
     show a0.size - (((i + 1 : Nat) : Int)).toNat < a0.size - ((i : Int)).toNat
     rw [Int.toNat_natCast,Int.toNat_natCast]
     exact Nat.sub_lt_sub_left HLT.out (Nat.lt_succ_self i)
  ·obtain rfl : i = a0.size := by have := HI.out;omega
   have hl1 : decide ((a0.size : Int) < (a0.size : Int)) = false := decide_eq_false (by omega)
   have hl2 : decide (a0.size < a0.size) = false := decide_eq_false (by omega)
   have hcv : (convert 26 9 (.slice (some ⟨B,0,none⟩) a0.size cap)).run Try.prog wr = .ok (.string (upperB a0)) wr := by
    rw [← upper_str]
    refine run_convert_bytes_arg wr 26 5 Try.underlying26 Try.underlying5 B 0 a0.size cap ((List.range a0.size).map fun j => upX a0 a0.size j) (by simp) (fun j hj => ?_) 9 Try.underlying9
    have := HC.out j hj
    simpa [List.getD_eq_getElem?_getD,List.getElem?_map,List.getElem?_range hj] using this
   clear hlt HI
   go_wp2
   go_ret
   exact ⟨rfl,HB.out⟩
end Go.Proofs.Ytgolcojhnklfdaa.Pr
namespace Go.Proofs.Ytgolcojhnklfdaa.Pr
open Go.RowKit Go.Proofs.YtgolcojhnklfdaaW.PrintWords Go.Proofs.YtgolcojhnklfdaaW.PrintLast Go.Proofs.YtgolcojhnklfdaaW.PrintMore
attribute [local go_sem] max2_int min2_int max_two min_two max_three min_three max_four min_four
set_option linter.unusedVariables false
set_option linter.unusedSimpArgs false
def qvj.f (a0 : Int) : Option (Bool) := if a0 ≥ 48 then (some (decide (a0 ≤ 57))) else (some false)
set_option maxHeartbeats 8000000 in
set_option maxRecDepth 100000 in
theorem qvj.calls (a0 : Int) (r : Bool) (w : World) (h : qvj.f a0 = some r) :
  Calls Try.prog 126 #[.int .u8 a0] w fun e w' => e = .returned (.bool r) ∧ Drawn0 w w' := by
 have H : (if a0 ≥ 48 then (some (decide (a0 ≤ 57))) else (some false)) = some r := h
 clear h
 by_cases c2 : a0 ≥ 48
 ·rw [if_pos c2] at H
  have c2b0 : decide (48 ≤ a0) = true := decide_eq_true c2
  clear c2
  obtain rfl := Option.some.inj H
  go_enter Try.func126,Try.ntmps126
  go_wp2
  go_ret
  exact ⟨by first | rfl | (simp;done) | (simp [*];done),by repeat (first | exact Drawn0.refl _ | apply Drawn0.step)⟩
 ·rw [if_neg c2] at H
  have c2b0 : decide (48 ≤ a0) = false := decide_eq_false c2
  clear c2
  obtain rfl := Option.some.inj H
  go_enter Try.func126,Try.ntmps126
  go_wp2
  go_ret
  exact ⟨by first | rfl | (simp;done) | (simp [*];done),by repeat (first | exact Drawn0.refl _ | apply Drawn0.step)⟩
end Go.Proofs.Ytgolcojhnklfdaa.Pr
namespace Go.Proofs.Ytgolcojhnklfdaa.Pr
open Go.RowKit Go.Proofs.YtgolcojhnklfdaaW.PrintWords Go.Proofs.YtgolcojhnklfdaaW.PrintLast Go.Proofs.YtgolcojhnklfdaaW.PrintMore
set_option linter.unusedVariables false
set_option linter.unusedSimpArgs false
def kcl (b : Int) : Nat := if 97 ≤ b ∧ b ≤ 122 then 0 else if 65 ≤ b ∧ b ≤ 90 then 1 else if 48 ≤ b ∧ b ≤ 57 then 2 else 3
def kin (s : ByteArray) (c : Nat) : Nat → Bool
 | 0 => false
 | i + 1 => kin s c i || kcl (bt s (i : Int)) == c
def b2n (b : Bool) : Nat := if b = true then 1 else 0
def kindsN (s : ByteArray) : Nat := b2n (kin s 0 s.size) + b2n (kin s 1 s.size) + b2n (kin s 2 s.size) + b2n (kin s 3 s.size)
theorem kin_hit {s : ByteArray} {c i : Nat} (h : kcl (bt s (i : Int)) = c) : kin s c (i + 1) = true := by
 simp only [kin,h,beq_self_eq_true,Bool.or_true]
theorem kin_miss {s : ByteArray} {c i : Nat} (h : kcl (bt s (i : Int)) ≠ c) : kin s c (i + 1) = kin s c i := by
 simp only [kin,beq_eq_false_iff_ne.2 h,Bool.or_false]
theorem wrap_upK {i n : Nat} (h : i < n) (hn : n ≤ 1000000) : wrap64 ((i : Int) + 1) = ((i + 1 : Nat) : Int) := by
 unfold wrap64
 omega
def kcells (s : ByteArray) (i : Nat) : Array Value := #[.bool (kin s 0 i),.bool (kin s 1 i),.bool (kin s 2 i),.bool (kin s 3 i)]
theorem kcells_put (s : ByteArray) (i c : Nat) (h : kcl (bt s (i : Int)) = c) : (kcells s i).setIfInBounds c (.bool true) = kcells s (i + 1) := by
 have hc : c = 0 ∨ c = 1 ∨ c = 2 ∨ c = 3 := by
  rw [← h];unfold kcl;split
  ·exact .inl rfl
  ·split
   ·exact .inr (.inl rfl)
   ·split
    ·exact .inr (.inr (.inl rfl))
    ·exact .inr (.inr (.inr rfl))
 unfold kcells
 rcases hc with rfl | rfl | rfl | rfl
 ·rw [kin_hit h,kin_miss (c := 1) (by omega),kin_miss (c := 2) (by omega),kin_miss (c := 3) (by omega)];rfl
 ·rw [kin_hit h,kin_miss (c := 0) (by omega),kin_miss (c := 2) (by omega),kin_miss (c := 3) (by omega)];rfl
 ·rw [kin_hit h,kin_miss (c := 0) (by omega),kin_miss (c := 1) (by omega),kin_miss (c := 3) (by omega)];rfl
 ·rw [kin_hit h,kin_miss (c := 0) (by omega),kin_miss (c := 1) (by omega),kin_miss (c := 2) (by omega)];rfl
def qjx.f (s : ByteArray) : Option Int := if s.size ≤ 1000000 then some (kindsN s : Int) else none
theorem ksteps (B : Nat) (T : TypeId) (s : ByteArray) (i c : Nat) (w wr : World) (hb : wr.heap[B]? = some (.cells (kcells s i) T (0,0))) (hw : Below w.heap.size w wr) (hB : w.heap.size ≤ B) (h : kcl (bt s (i : Int)) = c) :
  (wr.setCell ⟨B,c,none⟩ (.bool true)).heap[B]? = some (.cells (kcells s (i + 1)) T (0,0)) ∧ Below w.heap.size w (wr.setCell ⟨B,c,none⟩ (.bool true)) :=
 ⟨blk_put hb c _ (kcells_put s i c h),qx hw hB⟩
def ksum (b0 b1 b2 b3 : Bool) : Nat → Nat
 | 0 => 0
 | 1 => b2n b0
 | 2 => b2n b0 + b2n b1
 | 3 => b2n b0 + b2n b1 + b2n b2
 | _ => b2n b0 + b2n b1 + b2n b2 + b2n b3
theorem b2n_le (b : Bool) : b2n b ≤ 1 := by cases b <;> decide
theorem ksum_le (b0 b1 b2 b3 : Bool) (i : Nat) : ksum b0 b1 b2 b3 i ≤ 4 := by
 have h0 := b2n_le b0
 have h1 := b2n_le b1
 have h2 := b2n_le b2
 have h3 := b2n_le b3
 unfold ksum
 split <;> omega
set_option maxHeartbeats 4000000 in
set_option maxRecDepth 100000 in
theorem qjx.calls (a0 : ByteArray) (r : Int) (w : World) (h : qjx.f a0 = some r) :
  Calls Try.prog 75 #[.string a0] w fun e w' => e = .returned (.int .i64 r) ∧ Below w.heap.size w w' := by
 unfold qjx.f at h
 by_cases hs : a0.size ≤ 1000000
 case neg => rw [if_neg hs] at h;cases h
 rw [if_pos hs] at h
 obtain rfl := Option.some.inj h
 clear h
 have HL := qq.mk hs
 have HB0 : qq (Below w.heap.size w (w.alloc (.cells (kcells a0 0) 108 (0,0)))) := ⟨qj (Below.refl _ _) _⟩
 have HK0 : qq ((w.alloc (.cells (kcells a0 0) 108 (0,0))).heap[w.heap.size]? = some (.cells (kcells a0 0) 108 (0,0))) := ⟨blk_new _ _⟩
 clear hs
 go_enter Try.func75,Try.ntmps75
 go_wp2
 obtain ⟨B,eB⟩ : ∃ B,B = w.heap.size := ⟨_,rfl⟩
 rw [← eB] at HK0 ⊢
 have HEB := qq.mk eB
 clear eB
 go_loopw [4] (fun v4 W => ∃ i : Nat,v4 = .int .i64 (i : Int) ∧ qq (i ≤ a0.size) ∧ qq (Below w.heap.size w W) ∧ qq (W.heap[B]? = some (.cells (kcells a0 i) 108 (0,0)))) (fun v4 _ => a0.size - (intOf v4).toNat)
 case atStart => exact ⟨0,rfl,⟨Nat.zero_le _⟩,HB0,HK0⟩
 case round =>
  obtain ⟨i,rfl,HI,HB,HK⟩ := hrel
  clear HB0 HK0
  by_cases hlt : i < a0.size
  ·have HLT := qq.mk hlt
   have hl1 : decide ((i : Int) < (a0.size : Int)) = true := decide_eq_true (by omega)
   have hl2 : decide (i < a0.size) = true := decide_eq_true hlt
   have p1 : (0 ≤ (i : Int)) = True := eq_true (by omega)
   have q1 : ((i : Int) < (a0.size : Int)) = True := eq_true (by omega)
   have hx : (((a0[i]'hlt).toNat : Nat) : Int) = bt a0 (i : Int) := bt_at a0 (i : Int) hlt
   have e3 := wrap_upK hlt HL.out
   obtain ⟨x,ex⟩ : ∃ x,x = bt a0 (i : Int) := ⟨_,rfl⟩
   rw [← ex] at hx
   have HEX := qq.mk ex
   clear ex
   by_cases c1 : 97 ≤ x ∧ x ≤ 122
   ·obtain ⟨c1,c2⟩ := c1
    have d1 : decide (97 ≤ x) = true := decide_eq_true c1
    have d2 : decide (x ≤ 122) = true := decide_eq_true c2
    have hkc : kcl (bt a0 (i : Int)) = 0 := by rw [← HEX.out];unfold kcl;rw [if_pos ⟨c1,c2⟩]
    have HS := qq.mk (ksteps B 108 a0 i 0 w wr HK.out HB.out (Nat.le_of_eq HEB.out.symm) hkc)
    have hc := qw HK.out 0
    have hc : wr.cell? ⟨B,0,none⟩ = some (.bool (kin a0 0 i)) := hc.trans rfl
    have hf := qv HK.out 0
    clear HK HB hkc
    go_wp2
    try simp only [e3]
    go_roundw
    case rel => exact ⟨i + 1,rfl,⟨HLT.out⟩,⟨HS.out.2⟩,⟨HS.out.1⟩⟩
    case measure =>
     show a0.size - (((i + 1 : Nat) : Int)).toNat < a0.size - ((i : Int)).toNat
     rw [Int.toNat_natCast,Int.toNat_natCast]
     exact Nat.sub_lt_sub_left HLT.out (Nat.lt_succ_self i)
   ·have hn1 := c1
    have HN1 : (¬ 97 ≤ x ∧ decide (97 ≤ x) = false) ∨ (97 ≤ x ∧ decide (97 ≤ x) = true ∧ decide (x ≤ 122) = false) := by
     by_cases h : 97 ≤ x
     ·exact .inr ⟨h,decide_eq_true h,decide_eq_false (fun g => c1 ⟨h,g⟩)⟩
     ·exact .inl ⟨h,decide_eq_false h⟩
    by_cases c3 : 65 ≤ x ∧ x ≤ 90
    ·obtain ⟨c3,c4⟩ := c3
     have d0 : decide (97 ≤ x) = false := decide_eq_false (by omega)
     have d3 : decide (65 ≤ x) = true := decide_eq_true c3
     have d4 : decide (x ≤ 90) = true := decide_eq_true c4
     have hkc : kcl (bt a0 (i : Int)) = 1 := by rw [← HEX.out];unfold kcl;rw [if_neg hn1,if_pos ⟨c3,c4⟩]
     have HS := qq.mk (ksteps B 108 a0 i 1 w wr HK.out HB.out (Nat.le_of_eq HEB.out.symm) hkc)
     have hc := qw HK.out 1
     have hc : wr.cell? ⟨B,1,none⟩ = some (.bool (kin a0 1 i)) := hc.trans rfl
     have hf := qv HK.out 1
     clear HK HB hkc
     go_wp2
     try simp only [e3]
     go_roundw
     case rel => exact ⟨i + 1,rfl,⟨HLT.out⟩,⟨HS.out.2⟩,⟨HS.out.1⟩⟩
     case measure =>
      show a0.size - (((i + 1 : Nat) : Int)).toNat < a0.size - ((i : Int)).toNat
      rw [Int.toNat_natCast,Int.toNat_natCast]
      exact Nat.sub_lt_sub_left HLT.out (Nat.lt_succ_self i)
    ·have hn2 := c3
     by_cases hdg : 48 ≤ x ∧ x ≤ 57
     ·have HDG : qq (qvj.f x = some true) := ⟨by unfold qvj.f;rw [if_pos (by omega),decide_eq_true hdg.2]⟩
      have d0 : decide (97 ≤ x) = false := decide_eq_false (by omega)
      have d1 : decide (65 ≤ x) = false := decide_eq_false (by omega)
      have hkc : kcl (bt a0 (i : Int)) = 2 := by rw [← HEX.out];unfold kcl;rw [if_neg hn1,if_neg hn2,if_pos hdg]
      have HS := qq.mk (ksteps B 108 a0 i 2 w wr HK.out HB.out (Nat.le_of_eq HEB.out.symm) hkc)
      have hc := qw HK.out 2
      have hc : wr.cell? ⟨B,2,none⟩ = some (.bool (kin a0 2 i)) := hc.trans rfl
      have hf := qv HK.out 2
      clear HK HB hkc
      go_wp2_with (go_at_call 126;refine (qvj.calls x true wr HDG.out).mono ?_;rintro e w' ⟨rfl,⟨⟨nd,rfl⟩⟩⟩)
      go_wp2
      try simp only [e3]
      go_roundw
      case rel => exact ⟨i + 1,rfl,⟨HLT.out⟩,⟨qz HS.out.2 nd⟩,⟨zz HS.out.1 nd⟩⟩
      case measure =>
       show a0.size - (((i + 1 : Nat) : Int)).toNat < a0.size - ((i : Int)).toNat
       rw [Int.toNat_natCast,Int.toNat_natCast]
       exact Nat.sub_lt_sub_left HLT.out (Nat.lt_succ_self i)
     ·have HDG : qq (qvj.f x = some false) := ⟨by
       unfold qvj.f
       by_cases h : x ≥ 48
       ·rw [if_pos h,decide_eq_false (fun g => hdg ⟨h,g⟩)]
       ·rw [if_neg h]⟩
      have HN2 : decide (65 ≤ x) = false ∨ (decide (65 ≤ x) = true ∧ decide (x ≤ 90) = false) := by
       by_cases h : 65 ≤ x
       ·exact .inr ⟨decide_eq_true h,decide_eq_false (fun g => c3 ⟨h,g⟩)⟩
       ·exact .inl (decide_eq_false h)
      rcases HN1 with ⟨_,d0⟩ | ⟨g97,d0,d1⟩
      ·rcases HN2 with d2 | ⟨d2,d3⟩
       ·have hkc : kcl (bt a0 (i : Int)) = 3 := by rw [← HEX.out];unfold kcl;rw [if_neg hn1,if_neg hn2,if_neg hdg]
        have HS := qq.mk (ksteps B 108 a0 i 3 w wr HK.out HB.out (Nat.le_of_eq HEB.out.symm) hkc)
        have hc := qw HK.out 3
        have hc : wr.cell? ⟨B,3,none⟩ = some (.bool (kin a0 3 i)) := hc.trans rfl
        have hf := qv HK.out 3
        clear HK HB hkc
        go_wp2_with (go_at_call 126;refine (qvj.calls x false wr HDG.out).mono ?_;rintro e w' ⟨rfl,⟨⟨nd,rfl⟩⟩⟩)
        go_wp2
        try simp only [e3]
        go_roundw
        case rel => exact ⟨i + 1,rfl,⟨HLT.out⟩,⟨qz HS.out.2 nd⟩,⟨zz HS.out.1 nd⟩⟩
        case measure =>
         show a0.size - (((i + 1 : Nat) : Int)).toNat < a0.size - ((i : Int)).toNat
         rw [Int.toNat_natCast,Int.toNat_natCast]
         exact Nat.sub_lt_sub_left HLT.out (Nat.lt_succ_self i)
       ·have hkc : kcl (bt a0 (i : Int)) = 3 := by rw [← HEX.out];unfold kcl;rw [if_neg hn1,if_neg hn2,if_neg hdg]
        have HS := qq.mk (ksteps B 108 a0 i 3 w wr HK.out HB.out (Nat.le_of_eq HEB.out.symm) hkc)
        have hc := qw HK.out 3
        have hc : wr.cell? ⟨B,3,none⟩ = some (.bool (kin a0 3 i)) := hc.trans rfl
        have hf := qv HK.out 3
        clear HK HB hkc
        go_wp2_with (go_at_call 126;refine (qvj.calls x false wr HDG.out).mono ?_;rintro e w' ⟨rfl,⟨⟨nd,rfl⟩⟩⟩)
        go_wp2
        try simp only [e3]
        go_roundw
        case rel => exact ⟨i + 1,rfl,⟨HLT.out⟩,⟨qz HS.out.2 nd⟩,⟨zz HS.out.1 nd⟩⟩
        case measure =>
         show a0.size - (((i + 1 : Nat) : Int)).toNat < a0.size - ((i : Int)).toNat
         rw [Int.toNat_natCast,Int.toNat_natCast]
         exact Nat.sub_lt_sub_left HLT.out (Nat.lt_succ_self i)
      ·have d2 : decide (65 ≤ x) = true := decide_eq_true (by omega)
       have d3 : decide (x ≤ 90) = false := decide_eq_false (by omega)
       have hkc : kcl (bt a0 (i : Int)) = 3 := by rw [← HEX.out];unfold kcl;rw [if_neg hn1,if_neg hn2,if_neg hdg]
       have HS := qq.mk (ksteps B 108 a0 i 3 w wr HK.out HB.out (Nat.le_of_eq HEB.out.symm) hkc)
       have hc := qw HK.out 3
       have hc : wr.cell? ⟨B,3,none⟩ = some (.bool (kin a0 3 i)) := hc.trans rfl
       have hf := qv HK.out 3
       clear HK HB hkc
       go_wp2_with (go_at_call 126;refine (qvj.calls x false wr HDG.out).mono ?_;rintro e w' ⟨rfl,⟨⟨nd,rfl⟩⟩⟩)
       go_wp2
       try simp only [e3]
       go_roundw
       case rel => exact ⟨i + 1,rfl,⟨HLT.out⟩,⟨qz HS.out.2 nd⟩,⟨zz HS.out.1 nd⟩⟩
       case measure =>
        show a0.size - (((i + 1 : Nat) : Int)).toNat < a0.size - ((i : Int)).toNat
        rw [Int.toNat_natCast,Int.toNat_natCast]
        exact Nat.sub_lt_sub_left HLT.out (Nat.lt_succ_self i)
  ·obtain rfl : i = a0.size := by have := HI.out;omega
   have hl1 : decide ((a0.size : Int) < (a0.size : Int)) = false := decide_eq_false (by omega)
   have hl2 : decide (a0.size < a0.size) = false := decide_eq_false (by omega)
   have hc0 : wr.cell? ⟨B,0,none⟩ = some (.bool (kin a0 0 a0.size)) := (qw HK.out 0).trans rfl
   have hc1 : wr.cell? ⟨B,1,none⟩ = some (.bool (kin a0 1 a0.size)) := (qw HK.out 1).trans rfl
   have hc2 : wr.cell? ⟨B,2,none⟩ = some (.bool (kin a0 2 a0.size)) := (qw HK.out 2).trans rfl
   have hc3 : wr.cell? ⟨B,3,none⟩ = some (.bool (kin a0 3 a0.size)) := (qw HK.out 3).trans rfl
   clear hlt HI
   go_wp2
   clear hc0 hc1 hc2 hc3
   have HKN : qq (kindsN a0 = ksum (kin a0 0 a0.size) (kin a0 1 a0.size) (kin a0 2 a0.size) (kin a0 3 a0.size) 4) := ⟨rfl⟩
   generalize kin a0 0 a0.size = b0 at HKN ⊢
   generalize kin a0 1 a0.size = b1 at HKN ⊢
   generalize kin a0 2 a0.size = b2 at HKN ⊢
   generalize kin a0 3 a0.size = b3 at HKN ⊢
   obtain ⟨wa,ewa⟩ : ∃ W,W = wr := ⟨_,rfl⟩
   have HBW : qq (Below w.heap.size w wa) := ⟨by rw [ewa];exact HB.out⟩
   go_loopw [6,40] (fun v6 v40 W => ∃ i : Nat,v6 = .int .i64 (ksum b0 b1 b2 b3 i : Int) ∧ v40 = .int .i64 (i : Int) ∧ qq (i ≤ 4) ∧ qq (W = wa)) (fun _ v40 _ => 4 - (intOf v40).toNat)
   case atStart => exact ⟨0,rfl,rfl,⟨by omega⟩,⟨ewa.symm⟩⟩
   case round =>
   obtain ⟨i,rfl,rfl,HI,HW⟩ := hrel
   clear HB HK ewa
   obtain rfl := HW.out
   clear HW
   have hi : i = 0 ∨ i = 1 ∨ i = 2 ∨ i = 3 ∨ i = 4 := by have := HI.out;omega
   clear HI
   rcases hi with rfl | rfl | rfl | rfl | rfl
   ·have hix : ∀ W : World,(Instr.index 108 (.agg #[.bool b0,.bool b1,.bool b2,.bool b3]) (.int .i64 0)).run Try.prog W = .ok (.bool b0) W := fun W => by kernel_rfl
    have e3 : wrap64 (0 + 1) = 1 := by unfold wrap64;omega
    have e6 : wrap64 1 = 1 := by unfold wrap64;omega
    have HS : qq (ksum b0 b1 b2 b3 1 = ksum b0 b1 b2 b3 0 + b2n b0) := ⟨by simp [ksum]⟩
    have hcl := ksum_le b0 b1 b2 b3 0
    obtain ⟨c,ec⟩ : ∃ c,c = ksum b0 b1 b2 b3 0 := ⟨_,rfl⟩
    rw [← ec] at hcl HS ⊢
    clear ec
    have e5 : wrap64 ((c : Int) + 1) = ((c + 1 : Nat) : Int) := by unfold wrap64;omega
    clear hcl
    cases b0
    ·go_wp2
     try simp only [e3,e6]
     go_roundw
     case rel => exact ⟨1,by rw [HS.out];rfl,rfl,⟨by omega⟩,⟨trivial⟩⟩
     case measure => decide
    ·go_wp2
     try simp only [e3,e5,e6]
     go_roundw
     case rel => exact ⟨1,by rw [HS.out];rfl,rfl,⟨by omega⟩,⟨trivial⟩⟩
     case measure => decide
   ·have hix : ∀ W : World,(Instr.index 108 (.agg #[.bool b0,.bool b1,.bool b2,.bool b3]) (.int .i64 1)).run Try.prog W = .ok (.bool b1) W := fun W => by kernel_rfl
    have e3 : wrap64 (1 + 1) = 2 := by unfold wrap64;omega
    have e6 : wrap64 2 = 2 := by unfold wrap64;omega
    have HS : qq (ksum b0 b1 b2 b3 2 = ksum b0 b1 b2 b3 1 + b2n b1) := ⟨by simp [ksum]⟩
    have hcl := ksum_le b0 b1 b2 b3 1
    obtain ⟨c,ec⟩ : ∃ c,c = ksum b0 b1 b2 b3 1 := ⟨_,rfl⟩
    rw [← ec] at hcl HS ⊢
    clear ec
    have e5 : wrap64 ((c : Int) + 1) = ((c + 1 : Nat) : Int) := by unfold wrap64;omega
    clear hcl
    cases b1
    ·go_wp2
     try simp only [e3,e6]
     go_roundw
     case rel => exact ⟨2,by rw [HS.out];rfl,rfl,⟨by omega⟩,⟨trivial⟩⟩
     case measure => decide
    ·go_wp2
     try simp only [e3,e5,e6]
     go_roundw
     case rel => exact ⟨2,by rw [HS.out];rfl,rfl,⟨by omega⟩,⟨trivial⟩⟩
     case measure => decide
   ·have hix : ∀ W : World,(Instr.index 108 (.agg #[.bool b0,.bool b1,.bool b2,.bool b3]) (.int .i64 2)).run Try.prog W = .ok (.bool b2) W := fun W => by kernel_rfl
    have e3 : wrap64 (2 + 1) = 3 := by unfold wrap64;omega
    have e6 : wrap64 3 = 3 := by unfold wrap64;omega
    have HS : qq (ksum b0 b1 b2 b3 3 = ksum b0 b1 b2 b3 2 + b2n b2) := ⟨by simp [ksum]⟩
    have hcl := ksum_le b0 b1 b2 b3 2
    obtain ⟨c,ec⟩ : ∃ c,c = ksum b0 b1 b2 b3 2 := ⟨_,rfl⟩
    rw [← ec] at hcl HS ⊢
    clear ec
    have e5 : wrap64 ((c : Int) + 1) = ((c + 1 : Nat) : Int) := by unfold wrap64;omega
    clear hcl
    cases b2
    ·go_wp2
     try simp only [e3,e6]
     go_roundw
     case rel => exact ⟨3,by rw [HS.out];rfl,rfl,⟨by omega⟩,⟨trivial⟩⟩
     case measure => decide
    ·go_wp2
     try simp only [e3,e5,e6]
     go_roundw
     case rel => exact ⟨3,by rw [HS.out];rfl,rfl,⟨by omega⟩,⟨trivial⟩⟩
     case measure => decide
   ·have hix : ∀ W : World,(Instr.index 108 (.agg #[.bool b0,.bool b1,.bool b2,.bool b3]) (.int .i64 3)).run Try.prog W = .ok (.bool b3) W := fun W => by kernel_rfl
    have e3 : wrap64 (3 + 1) = 4 := by unfold wrap64;omega
    have e6 : wrap64 4 = 4 := by unfold wrap64;omega
    have HS : qq (ksum b0 b1 b2 b3 4 = ksum b0 b1 b2 b3 3 + b2n b3) := ⟨by simp [ksum]⟩
    have hcl := ksum_le b0 b1 b2 b3 3
    obtain ⟨c,ec⟩ : ∃ c,c = ksum b0 b1 b2 b3 3 := ⟨_,rfl⟩
    rw [← ec] at hcl HS ⊢
    clear ec
    have e5 : wrap64 ((c : Int) + 1) = ((c + 1 : Nat) : Int) := by unfold wrap64;omega
    clear hcl
    cases b3
    ·go_wp2
     try simp only [e3,e6]
     go_roundw
     case rel => exact ⟨4,by rw [HS.out];rfl,rfl,⟨by omega⟩,⟨trivial⟩⟩
     case measure => decide
    ·go_wp2
     try simp only [e3,e5,e6]
     go_roundw
     case rel => exact ⟨4,by rw [HS.out];rfl,rfl,⟨by omega⟩,⟨trivial⟩⟩
     case measure => decide
   ·go_wp2
    go_ret
    exact ⟨by rw [HKN.out];rfl,HBW.out⟩
end Go.Proofs.Ytgolcojhnklfdaa.Pr
namespace Go.Proofs.Ytgolcojhnklfdaa.Pr
open Go.RowKit Go.Proofs.YtgolcojhnklfdaaW.PrintWords Go.Proofs.YtgolcojhnklfdaaW.PrintLast Go.Proofs.YtgolcojhnklfdaaW.PrintMore
def anyO {α : Type} (p : α → Option Bool) : List α → Option Bool
 | [] => some false
 | x :: xs => (p x).bind fun b => if b = true then some true else anyO p xs
theorem anyO_drop {α : Type} {p : α → Option Bool} {l : List α} {k : Nat} {r : Bool} (hk : k < l.length) (h : anyO p (l.drop k) = some r) : ∃ b,p l[k] = some b ∧ (b = true → r = true) ∧ (b = false → anyO p (l.drop (k + 1)) = some r) := by
 rw [List.drop_eq_getElem_cons hk] at h
 obtain ⟨b,hb,h2⟩ := Option.bind_eq_some_iff.1 h
 refine ⟨b,hb,fun e => ?_,fun e => ?_⟩
 ·subst e;simpa using h2.symm
 ·subst e;simpa using h2
end Go.Proofs.Ytgolcojhnklfdaa.Pr
namespace Go.Proofs.Ytgolcojhnklfdaa.Pr
open Go.RowKit Go.Proofs.YtgolcojhnklfdaaW.PrintWords Go.Proofs.YtgolcojhnklfdaaW.PrintLast Go.Proofs.YtgolcojhnklfdaaW.PrintMore
set_option linter.unusedVariables false
set_option linter.unusedSimpArgs false
abbrev StT := S82
def heldBy (k : Nat) (p : ByteArray) (x : StT) : Option Bool := xx.f k x.f0 x.f1 x.f2 p
set_option maxHeartbeats 1000000 in
set_option maxRecDepth 100000 in
theorem held_calls (k : Nat) (p : ByteArray) (g : Nat) (x : StT) (b : Bool) (W : World) (A0 A2 : Option Addr) (c0 c2 : Nat) (hg : W.cell? ⟨g,0,none⟩ = some (.string p)) (l0 : x.f0.length ≤ c0) (h0 : Kd.C (Kd.int .u8) W A0 x.f0.length x.f0) (l2 : x.f2.length ≤ c2) (h2 : Kd.C (Kd.int .u8) W A2 x.f2.length x.f2) (h : heldBy k p x = some b) :
  Calls Try.prog 83 #[.agg #[.slice A0 x.f0.length c0,.int .i64 x.f1,.slice A2 x.f2.length c2],.pointer (some ⟨g,0,none⟩)] W fun e w' => e = .returned (.bool b) ∧ Below W.heap.size W w' := by
 have HG := qq.mk hg
 have HR0 := qq.mk (Kd.C_alloc h0 (.cells #[.slice A0 x.f0.length c0,.int .i64 x.f1,.slice A2 x.f2.length c2] 82 (0,0)))
 have HR2 := qq.mk (Kd.C_alloc h2 (.cells #[.slice A0 x.f0.length c0,.int .i64 x.f1,.slice A2 x.f2.length c2] 82 (0,0)))
 have HB0 : qq (Below W.heap.size W (W.alloc (.cells #[.slice A0 x.f0.length c0,.int .i64 x.f1,.slice A2 x.f2.length c2] 82 (0,0)))) := ⟨qj (Below.refl _ _) _⟩
 have hg1 : (W.alloc (.cells #[.slice A0 x.f0.length c0,.int .i64 x.f1,.slice A2 x.f2.length c2] 82 (0,0))).cell? ⟨g,0,none⟩ = some (.string p) := (HB0.out.cell (World.block_lt_of_cell? W _ hg)).trans hg
 have HL0 := qq.mk l0
 have HL2 := qq.mk l2
 have HH := qq.mk h
 clear h0 h2 l0 l2 h
 go_enter Try.func83,Try.ntmps83
 go_wp2_with (go_at_call 47;refine (xx.calls k A0 c0 x.f0 x.f1 A2 c2 x.f2 p b _ HR0.out HL0.out HR2.out HL2.out HH.out).mono ?_)
 rintro e w1 ⟨rfl,hB⟩
 have HB1 : qq (Below W.heap.size W w1) := ⟨HB0.out.trans (hB.mono HB0.out.size)⟩
 clear hB
 go_wp2
 go_ret
 exact ⟨rfl,HB1.out⟩
set_option maxHeartbeats 1000000 in
set_option maxRecDepth 100000 in
theorem indexHeld_calls (k0 : Nat) (p : ByteArray) (g : Nat) (A0 : Option Addr) (c0 : Nat) (l0 : List StT) (r : Bool) (w : World) (hg : w.cell? ⟨g,0,none⟩ = some (.string p)) (hr0 : Kd.C k82 w A0 l0.length l0) (h : anyO (heldBy k0 p) l0 = some r) :
  Calls Try.prog 128 #[.slice A0 l0.length c0,.func (.func 83) #[] #[.pointer (some ⟨g,0,none⟩)]] w fun e w' => ∃ i : Int,e = .returned (.int .i64 i) ∧ decide (0 ≤ i) = r ∧ Below w.heap.size w w' := by
 have hmax := Kd.C_max hr0
 have HR0 := qq.mk hr0
 have HM := qq.mk hmax
 have HH := qq.mk h
 have HG := qq.mk hg
 clear hr0 hmax h hg
 have eg : Enters Try.prog 83 := enters_of Try.func83 (by kernel_rfl) rfl
 have e1 : ∀ (args : Array Value) (w : World),(callFunc 83 args).run Try.prog w = .ok (.enter 83 args) w := eg
 go_enter Try.func128,Try.ntmps128
 go_wp2
 go_loopw [5,8] (fun v5 i W => ∃ k : Nat,k ≤ l0.length ∧ i = .int .i64 k ∧ qq (anyO (heldBy k0 p) (l0.drop k) = some r ∧ Below w.heap.size w W)) (fun _ i _ => l0.length - (intOf i).toNat)
 case atStart => exact ⟨0,by omega,rfl,⟨HH.out,by repeat (first | exact Below.refl _ _ | apply below_drew | apply qz)⟩⟩
 case round =>
  obtain ⟨k,hk,rfl,HW⟩ := hrel
  have hmax := HM.out
  by_cases hlt : k < l0.length
  ·have hCw := Kd.C_below HR0.out HW.out.2
   obtain ⟨ad,B0,d0,B2,d2,ead,hx0,hx1,hx2,hl0,hC0,hl2,hC2⟩ := at_T82 hCw (k : Int) (by omega) (by omega)
   cases ead
   obtain ⟨b,hb,h1,h2⟩ := anyO_drop hlt HW.out.1
   have ex : wx l0 (k : Int) = l0[k] := by simp [wx,List.getD_eq_getElem?_getD,List.getElem?_eq_getElem hlt]
   have hgw : wr.cell? ⟨g,0,none⟩ = some (.string p) := (HW.out.2.cell (World.block_lt_of_cell? w _ HG.out)).trans HG.out
   rw [← ex] at hb
   have HC := qq.mk (fun W (hb : Below wr.heap.size wr W) => held_calls k0 p g (wx l0 (k : Int)) b W B0 B2 d0 d2 ((hb.cell (World.block_lt_of_cell? wr _ hgw)).trans hgw) hl0 (Kd.C_below hC0 hb) hl2 (Kd.C_below hC2 hb) ‹_›)
   clear hb hCw hgw hl0 hC0 hl2 hC2 ex
   generalize wx l0 (k : Int) = x at HC hx0 hx1 hx2
   rw [Int.toNat_natCast] at hx0 hx1 hx2
   cases b with
   | false =>
    have HB := qq.mk (h2 rfl)
    clear h1 h2
    go_wp2_with (go_at_fn 83;refine (HC.out _ (by repeat (first | exact Below.refl _ _ | apply below_drew | apply qz))).mono ?_;rintro e w' ⟨rfl,hb⟩;have HD := qq.mk (zv (by repeat (first | exact HW.out.2 | apply below_drew | apply qz)) hb);clear hb)
    go_roundw
    case rel => exact ⟨k + 1,by omega,by go_num,⟨HB.out,by repeat (first | exact HD.out | apply below_drew | apply qz)⟩⟩
    case measure => simp [intOf];omega
   | true =>
    have HB := qq.mk (h1 rfl)
    clear h1 h2
    go_wp2_with (go_at_fn 83;refine (HC.out _ (by repeat (first | exact Below.refl _ _ | apply below_drew | apply qz))).mono ?_;rintro e w' ⟨rfl,hb⟩;have HD := qq.mk (zv (by repeat (first | exact HW.out.2 | apply below_drew | apply qz)) hb);clear hb)
    go_ret
    exact ⟨k,rfl,by rw [HB.out];exact decide_eq_true (by omega),by repeat (first | exact HD.out | apply below_drew | apply qz)⟩
  ·obtain rfl : k = l0.length := by omega
   rw [List.drop_length] at HW
   go_wp2
   go_ret
   exact ⟨-1,rfl,by have := Option.some.inj HW.out.1;rw [← this];rfl,by repeat (first | exact HW.out.2 | apply below_drew | apply qz)⟩
theorem containsHeld_calls (k0 : Nat) (p : ByteArray) (g : Nat) (A0 : Option Addr) (c0 : Nat) (l0 : List StT) (r : Bool) (w : World) (hg : w.cell? ⟨g,0,none⟩ = some (.string p)) (hr0 : Kd.C k82 w A0 l0.length l0) (h : anyO (heldBy k0 p) l0 = some r) :
  Calls Try.prog 82 #[.slice A0 l0.length c0,.func (.func 83) #[] #[.pointer (some ⟨g,0,none⟩)]] w fun e w' => e = .returned (.bool r) ∧ Below w.heap.size w w' := by
 have C1 := qq.mk (indexHeld_calls k0 p g A0 c0 l0 r w hg hr0 h)
 clear hr0 h hg
 go_enter Try.func82,Try.ntmps82
 go_wp2_with (go_at_call 128;refine C1.out.mono ?_;rintro e w' ⟨i,rfl,hi,hb⟩;have HD := qq.mk hb;clear hb)
 go_ret
 exact ⟨by simp only [← hi];rfl,by repeat (first | exact HD.out | apply below_drew | apply qz)⟩
end Go.Proofs.Ytgolcojhnklfdaa.Pr
namespace Go.Proofs.Ytgolcojhnklfdaa.Pr
open Go.RowKit Go.Proofs.YtgolcojhnklfdaaW.PrintWords Go.Proofs.YtgolcojhnklfdaaW.PrintLast Go.Proofs.YtgolcojhnklfdaaW.PrintMore
attribute [local go_sem] max2_int min2_int max_two min_two max_three min_three max_four min_four
set_option linter.unusedVariables false
set_option linter.unusedSimpArgs false
def qqv.f (a0 : Int) : Option (Bool) := if a0 ≥ 48 then (some (decide (a0 ≤ 57))) else (some false)
set_option maxHeartbeats 8000000 in
set_option maxRecDepth 100000 in
theorem qqv.calls (a0 : Int) (r : Bool) (w : World) (h : qqv.f a0 = some r) :
  Calls Try.prog 80 #[.int .u8 a0] w fun e w' => e = .returned (.bool r) ∧ Drawn0 w w' := by
 have H : (if a0 ≥ 48 then (some (decide (a0 ≤ 57))) else (some false)) = some r := h
 clear h
 by_cases c2 : a0 ≥ 48
 ·rw [if_pos c2] at H
  have c2b0 : decide (48 ≤ a0) = true := decide_eq_true c2
  clear c2
  obtain rfl := Option.some.inj H
  go_enter Try.func80,Try.ntmps80
  go_wp2
  go_ret
  exact ⟨by first | rfl | (simp;done) | (simp [*];done),by repeat (first | exact Drawn0.refl _ | apply Drawn0.step)⟩
 ·rw [if_neg c2] at H
  have c2b0 : decide (48 ≤ a0) = false := decide_eq_false c2
  clear c2
  obtain rfl := Option.some.inj H
  go_enter Try.func80,Try.ntmps80
  go_wp2
  go_ret
  exact ⟨by first | rfl | (simp;done) | (simp [*];done),by repeat (first | exact Drawn0.refl _ | apply Drawn0.step)⟩
end Go.Proofs.Ytgolcojhnklfdaa.Pr
namespace Go.Proofs.Ytgolcojhnklfdaa.Pr
open Go.RowKit Go.Proofs.YtgolcojhnklfdaaW.PrintWords Go.Proofs.YtgolcojhnklfdaaW.PrintLast Go.Proofs.YtgolcojhnklfdaaW.PrintMore
attribute [local go_sem] max2_int min2_int max_two min_two max_three min_three max_four min_four
set_option linter.unusedVariables false
set_option linter.unusedSimpArgs false
def qqx.f (a0 : Bool) : Option (Int) := if a0 = true then (some 1) else (some 0)
set_option maxHeartbeats 8000000 in
set_option maxRecDepth 100000 in
theorem qqx.calls (a0 : Bool) (r : Int) (w : World) (h : qqx.f a0 = some r) :
  Calls Try.prog 81 #[.bool a0] w fun e w' => e = .returned (.int .i64 r) ∧ Drawn0 w w' := by
 have H : (if a0 = true then (some 1) else (some 0)) = some r := h
 clear h
 by_cases c2 : a0 = true
 ·subst c2
  have H1 : (some 1) = some r := by rw [if_pos rfl] at H;exact H
  clear H
  have H := H1
  clear H1
  obtain rfl := Option.some.inj H
  go_enter Try.func81,Try.ntmps81
  go_wp2
  go_ret
  exact ⟨by first | rfl | (simp;done) | (simp [*];done),by repeat (first | exact Drawn0.refl _ | apply Drawn0.step)⟩
 ·replace c2 := Bool.eq_false_iff.mpr c2
  subst c2
  have H1 : (some 0) = some r := by rw [if_neg (show ¬ (false = true) by decide)] at H;exact H
  clear H
  have H := H1
  clear H1
  obtain rfl := Option.some.inj H
  go_enter Try.func81,Try.ntmps81
  go_wp2
  go_ret
  exact ⟨by first | rfl | (simp;done) | (simp [*];done),by repeat (first | exact Drawn0.refl _ | apply Drawn0.step)⟩
end Go.Proofs.Ytgolcojhnklfdaa.Pr
namespace Go.Proofs.Ytgolcojhnklfdaa.Pr
open Go.RowKit Go.Proofs.YtgolcojhnklfdaaW.PrintWords Go.Proofs.YtgolcojhnklfdaaW.PrintLast Go.Proofs.YtgolcojhnklfdaaW.PrintMore
attribute [local go_sem] max2_int min2_int max_two min_two max_three min_three max_four min_four
set_option linter.unusedVariables false
set_option linter.unusedSimpArgs false
mutual
def qqw.j0 : Nat → ByteArray → Bool → Option (Bool)
 | 0,_,_ => none
 | k + 1,x0,x17 => if x17 = true then (some false) else (qqw.l0 k x0 (x0.size : Int) 0)
def qqw.l0 : Nat → ByteArray → Int → Int → Option (Bool)
 | 0,_,_,_ => none
 | k + 1,x0,x19,x20 => if x20 < x19 then (if 0 ≤ x20 then (if x20 < (x0.size : Int) then (if (bt x0 x20) < 32 then (some false) else (if (bt x0 x20) > 126 then (some false) else (qqw.l0 k x0 x19 (wrap64 (x20 + 1))))) else (none)) else (none)) else (some true)
end
def qqw.f (k : Nat) (a0 : ByteArray) (a1 : Int) (a2 : Int) : Option (Bool) := if (a0.size : Int) < a1 then (qqw.j0 k a0 true) else (qqw.j0 k a0 (decide ((a0.size : Int) > a2)))
set_option maxHeartbeats 8000000 in
set_option maxRecDepth 100000 in
theorem qqw.calls (k : Nat) (a0 : ByteArray) (a1 : Int) (a2 : Int) (r : Bool) (w : World) (h : qqw.f k a0 a1 a2 = some r) :
  Calls Try.prog 84 #[.string a0,.int .i64 a1,.int .i64 a2] w fun e w' => e = .returned (.bool r) ∧ Drawn0 w w' := by
 have H : (if (a0.size : Int) < a1 then (qqw.j0 k a0 true) else (qqw.j0 k a0 (decide ((a0.size : Int) > a2)))) = some r := h
 clear h
 have HC4 := qq.mk H
 clear H
 go_enter Try.func84,Try.ntmps84
 go_upto_region 1 with (fail)
 go_cut [17] (fun v17 wc => ∃ (kq : Nat) (x17_3 : Bool),v17 = .bool x17_3 ∧ qq (qqw.j0 kq a0 x17_3 = some r) ∧ qq (kq ≤ k) ∧ Drawn0 w wc)
 case first =>
  have H := HC4.out
  clear HC4
  by_cases c5 : (a0.size : Int) < a1
  ·rw [if_pos c5] at H
   have c5b0 : decide ((a0.size : Int) < a1) = true := decide_eq_true c5
   clear c5
   (first | rw [c5b0] | (simp only [i64_w,i32_w];rw [c5b0]) | skip)
   have H' := qq.mk H
   clear H
   go_wp2
   go_meet
   case rel => exact ⟨_,(true),(by first | rfl | (simp;done) | (simp [*];done)),H',⟨by first | omega | exact Nat.le_refl _⟩,by repeat (first | exact Drawn0.refl _ | apply Drawn0.step)⟩
  ·rw [if_neg c5] at H
   have c5b0 : decide ((a0.size : Int) < a1) = false := decide_eq_false c5
   clear c5
   (first | rw [c5b0] | (simp only [i64_w,i32_w];rw [c5b0]) | skip)
   have H' := qq.mk H
   clear H
   go_wp2
   go_meet
   case rel => exact ⟨_,(decide ((a0.size : Int) > a2)),(by first | rfl | (simp;done) | (simp [*];done)),H',⟨by first | omega | exact Nat.le_refl _⟩,by repeat (first | exact Drawn0.refl _ | apply Drawn0.step)⟩
 case rest =>
  clear HC4
  try clear p2
  try clear c5
  try clear c5b0
  obtain ⟨kq,x17_3,rfl,HA,HJ3,⟨mc3,rfl⟩⟩ := hcut
  cases kq with
  | zero => exact absurd HA.out (by simp [qqw.j0])
  | succ kj3 =>
   have H := HA.out
   clear HA
   simp only [qqw.j0] at H
   by_cases c6 : x17_3 = true
   ·subst c6
    have H1 : (some false) = some r := by rw [if_pos rfl] at H;exact H
    clear H
    have H := H1
    clear H1
    obtain rfl := Option.some.inj H
    go_wp2
    go_ret
    exact ⟨by first | rfl | (simp;done) | (simp [*];done),by repeat (first | exact Drawn0.refl _ | apply Drawn0.step)⟩
   ·replace c6 := Bool.eq_false_iff.mpr c6
    subst c6
    have H1 : (qqw.l0 kj3 a0 (a0.size : Int) 0) = some r := by rw [if_neg (show ¬ (false = true) by decide)] at H;exact H
    clear H
    have H := H1
    clear H1
    have H' := qq.mk H
    clear H
    go_wp2
    go_loopg [20] kj3 (fun kq v20 w' => ∃ (x20_2 : Int),v20 = .int .i64 x20_2 ∧ qq (qqw.l0 kq a0 (a0.size : Int) x20_2 = some r) ∧ qq (kq ≤ kj3) ∧ Drawn0 w w')
    case atStart => exact ⟨(0),(by first | rfl | (simp;done) | (simp [*];done)),H',⟨Nat.le_refl _⟩,by repeat (first | exact Drawn0.refl _ | apply Drawn0.step)⟩
    case round =>
     clear H'
     try clear p2
     try clear c3
     try clear c5
     try clear c5b0
     try clear c6
     try clear p2
     obtain ⟨x20_2,rfl,HA,HK2,⟨m2,rfl⟩⟩ := hrel
     cases gk with
     | zero => exact absurd HA.out (by simp [qqw.l0])
     | succ k2 =>
      have H := HA.out
      clear HA
      simp only [qqw.l0] at H
      by_cases c7 : x20_2 < (a0.size : Int)
      ·rw [if_pos c7] at H
       have c7b0 : decide (x20_2 < (a0.size : Int)) = true := decide_eq_true c7
       clear c7
       by_cases c8 : 0 ≤ x20_2
       ·rw [if_pos c8] at H
        have c8b0 : decide (0 ≤ x20_2) = true := decide_eq_true c8
        clear c8
        by_cases c9 : x20_2 < (a0.size : Int)
        ·rw [if_pos c9] at H
         have c9b0 : decide (x20_2 < (a0.size : Int)) = true := decide_eq_true c9
         clear c9
         by_cases c11 : (bt a0 x20_2) < 32
         ·rw [if_pos c11] at H
          have c11b0 : decide ((bt a0 x20_2) < 32) = true := decide_eq_true c11
          clear c11
          obtain rfl := Option.some.inj H
          have p10 : 0 ≤ (x20_2 : Int) := of_decide_eq_true (by assumption)
          have q10 : x20_2 < (a0.size : Int) := of_decide_eq_true (by assumption)
          have hx10 := bt_at a0 x20_2
          replace p10 := eq_true p10
          replace q10 := eq_true q10
          go_wp2
          go_ret
          exact ⟨by first | rfl | (simp;done) | (simp [*];done),by repeat (first | exact Drawn0.refl _ | apply Drawn0.step)⟩
         ·rw [if_neg c11] at H
          have c11b0 : decide ((bt a0 x20_2) < 32) = false := decide_eq_false c11
          clear c11
          by_cases c13 : (bt a0 x20_2) > 126
          ·rw [if_pos c13] at H
           have c13b0 : decide (126 < (bt a0 x20_2)) = true := decide_eq_true c13
           clear c13
           obtain rfl := Option.some.inj H
           have p10 : 0 ≤ (x20_2 : Int) := of_decide_eq_true (by assumption)
           have q10 : x20_2 < (a0.size : Int) := of_decide_eq_true (by assumption)
           have hx10 := bt_at a0 x20_2
           replace p10 := eq_true p10
           replace q10 := eq_true q10
           have p12 : 0 ≤ (x20_2 : Int) := of_decide_eq_true (by assumption)
           have q12 : x20_2 < (a0.size : Int) := of_decide_eq_true (by assumption)
           have hx12 := bt_at a0 x20_2
           replace p12 := eq_true p12
           replace q12 := eq_true q12
           go_wp2
           go_ret
           exact ⟨by first | rfl | (simp;done) | (simp [*];done),by repeat (first | exact Drawn0.refl _ | apply Drawn0.step)⟩
          ·rw [if_neg c13] at H
           have c13b0 : decide (126 < (bt a0 x20_2)) = false := decide_eq_false c13
           clear c13
           have H' := qq.mk H
           clear H
           have p10 : 0 ≤ (x20_2 : Int) := of_decide_eq_true (by assumption)
           have q10 : x20_2 < (a0.size : Int) := of_decide_eq_true (by assumption)
           have hx10 := bt_at a0 x20_2
           replace p10 := eq_true p10
           replace q10 := eq_true q10
           have p12 : 0 ≤ (x20_2 : Int) := of_decide_eq_true (by assumption)
           have q12 : x20_2 < (a0.size : Int) := of_decide_eq_true (by assumption)
           have hx12 := bt_at a0 x20_2
           replace p12 := eq_true p12
           replace q12 := eq_true q12
           go_wp2
           go_roundg k2
           case measure => have := HJ3.out;have := HK2.out;omega
           case rel => exact ⟨(wrap64 (x20_2 + 1)),(by first | rfl | (simp;done) | (simp [*];done)),H',⟨by have := HJ3.out;have := HK2.out;omega⟩,by repeat (first | exact Drawn0.refl _ | apply Drawn0.step)⟩
        ·rw [if_neg c9] at H
         exact absurd H (by simp)
       ·rw [if_neg c8] at H
        exact absurd H (by simp)
      ·rw [if_neg c7] at H
       have c7b0 : decide (x20_2 < (a0.size : Int)) = false := decide_eq_false c7
       clear c7
       obtain rfl := Option.some.inj H
       go_wp2
       go_ret
       exact ⟨by first | rfl | (simp;done) | (simp [*];done),by repeat (first | exact Drawn0.refl _ | apply Drawn0.step)⟩
end Go.Proofs.Ytgolcojhnklfdaa.Pr
namespace Go.Proofs.Ytgolcojhnklfdaa.Pr
open Go.RowKit Go.Proofs.YtgolcojhnklfdaaW.PrintWords Go.Proofs.YtgolcojhnklfdaaW.PrintLast Go.Proofs.YtgolcojhnklfdaaW.PrintMore
attribute [local go_sem] max2_int min2_int max_two min_two max_three min_three max_four min_four
set_option linter.unusedVariables false
set_option linter.unusedSimpArgs false
def banF (p b : ByteArray) : Bool := Lib.contains (upperB p).data.toList (upperB b).data.toList
def badB (b : ByteArray) : Bool := decide (b.size < 1) || decide (64 < b.size)
def fl : Nat → List Bool → List Int
 | _,[] => []
 | i,b :: bs => if b = true then ((1 + i : Nat) : Int) :: fl (i + 1) bs else fl (i + 1) bs
def pfBad (a0_0 a0_1 : Int) (l0_2 : List ByteArray) (a0_3 : Int) (a1 a2 : ByteArray) (l3 : List StT) : Prop := a0_0 < 1 ∨ 64 < a0_0 ∨ a0_1 < 0 ∨ 4 < a0_1 ∨ 20 < (l0_2.length : Int) ∨ a0_3 < 0 ∨ 10 < a0_3 ∨ 64 < (a1.size : Int) ∨ 1000 < (a2.size : Int) ∨ 20 < (l3.length : Int)
instance (a0_0 a0_1 : Int) (l0_2 : List ByteArray) (a0_3 : Int) (a1 a2 : ByteArray) (l3 : List StT) : Decidable (pfBad a0_0 a0_1 l0_2 a0_3 a1 a2 l3) := by unfold pfBad;infer_instance
def pfList (a0_0 a0_1 : Int) (l0_2 : List ByteArray) (a1 a2 : ByteArray) (t used : Bool) : List Bool := [decide ((a2.size : Int) < a0_0),decide (64 < a2.size),!t,decide ((kindsN a2 : Int) < a0_1),decide (3 ≤ a1.size) && banF a2 a1,l0_2.any (banF a2),used]
def qqq.f (k : Nat) (a0_0 a0_1 : Int) (l0_2 : List ByteArray) (a0_3 : Int) (a1 a2 : ByteArray) (l3 : List StT) : Option (List Int) :=
 if pfBad a0_0 a0_1 l0_2 a0_3 a1 a2 l3 then some [] else if l0_2.any badB = true then some [] else
  (anyO (heldBy k a2) (l3.take a0_3.toNat)).bind fun used => (qqw.f k a2 0 1000).bind fun t => some (fl 0 (pfList a0_0 a0_1 l0_2 a1 a2 t used))
theorem ban_step (p : ByteArray) (l : List ByteArray) {i : Nat} (h : i < l.length) : (l.take (i + 1)).any (banF p) = ((l.take i).any (banF p) || banF p l[i]) := by
 rw [List.take_succ_eq_append_getElem h,List.any_append]
 simp
theorem wrap_upF {i n : Nat} (h : i < n) (hn : n ≤ 1000000) : wrap64 ((i : Int) + 1) = ((i + 1 : Nat) : Int) := by
 unfold wrap64
 omega
def Bx (a0_0 a0_1 : Int) (A0_2 : Option Addr) (n c0_2 : Nat) (a0_3 : Int) (a2 : ByteArray) (B : Nat) (w W : World) : Prop := Below w.heap.size w W ∧ W.heap[B]? = some (.cells #[.int .i64 a0_0,.int .i64 a0_1,.slice A0_2 n c0_2,.int .i64 a0_3] 53 (0,0)) ∧ W.heap[B + 1]? = some (.cells #[.string a2] 9 (0,0))
theorem Bx.below {a0_0 a0_1 : Int} {A0_2 : Option Addr} {n c0_2 : Nat} {a0_3 : Int} {a2 : ByteArray} {B : Nat} {w W : World} (h : Bx a0_0 a0_1 A0_2 n c0_2 a0_3 a2 B w W) : Below w.heap.size w W := h.1
theorem Bx.step {a0_0 a0_1 : Int} {A0_2 : Option Addr} {n c0_2 : Nat} {a0_3 : Int} {a2 : ByteArray} {B : Nat} {w W W' : World} (h : Bx a0_0 a0_1 A0_2 n c0_2 a0_3 a2 B w W) (hb : Below W.heap.size W W') : Bx a0_0 a0_1 A0_2 n c0_2 a0_3 a2 B w W' := ⟨zv h.1 hb,wj h.2.1 hb,wj h.2.2 hb⟩
theorem Bx.drewN {a0_0 a0_1 : Int} {A0_2 : Option Addr} {n c0_2 : Nat} {a0_3 : Int} {a2 : ByteArray} {B : Nat} {w W : World} (h : Bx a0_0 a0_1 A0_2 n c0_2 a0_3 a2 B w W) (nd : Nat) : Bx a0_0 a0_1 A0_2 n c0_2 a0_3 a2 B w (W.drewN nd) := h.step (qz (Below.refl _ _) nd)
theorem Bx.cells {a0_0 a0_1 : Int} {A0_2 : Option Addr} {n c0_2 : Nat} {a0_3 : Int} {a2 : ByteArray} {B : Nat} {w W : World} (h : Bx a0_0 a0_1 A0_2 n c0_2 a0_3 a2 B w W) : W.cell? ⟨B,0,none⟩ = some (.int .i64 a0_0) ∧ W.cell? ⟨B,1,none⟩ = some (.int .i64 a0_1) ∧ W.cell? ⟨B,2,none⟩ = some (.slice A0_2 n c0_2) ∧ W.cell? ⟨B,3,none⟩ = some (.int .i64 a0_3) ∧ W.cell? ⟨B + 1,0,none⟩ = some (.string a2) :=
 ⟨(qw h.2.1 0).trans rfl,(qw h.2.1 1).trans rfl,(qw h.2.1 2).trans rfl,(qw h.2.1 3).trans rfl,(qw h.2.2 0).trans rfl⟩
theorem upper_run (s : ByteArray) (h : s.size ≤ 1000000) : qqk.f s = some (upperB s) := if_pos h
theorem fl_step (i : Nat) (y : List Bool) (h : i < y.length) : fl i (y.drop i) = (if y[i] = true then [((1 + i : Nat) : Int)] else []) ++ fl (i + 1) (y.drop (i + 1)) := by
 rw [List.drop_eq_getElem_cons h,fl]
 split <;> rfl
theorem upperB_size (s : ByteArray) : (upperB s).size = s.size := by
 show ((s.data.toList.map upU).toArray).size = s.size
 rw [List.size_toArray,List.length_map]
 exact data_length s
def qqq.T32 : Bool × List (List Nat × List Nat) := (true,[([],[]),([0],[0]),([],[]),([2],[2]),([1,3],[1,3]),([],[]),([5],[5]),([6],[6]),([],[]),([8],[8]),([9],[9]),([],[]),([],[]),([12],[12]),([11,13],[11,13]),([],[]),([15],[15]),([16],[16]),([17,9],[17]),([18],[18]),([19,18,18],[18,19]),([18],[18]),([21,20,18],[18,21]),([20,22,22,18],[18,20,22]),([18,23],[18,23]),([],[]),([],[]),([4,7,10,14,24,25,26],[4,7,10,14,24,25,26]),([27],[27]),([],[])])
def qqq.B32 : List Nat := [0,1,0,4,15,0,32,96,0,256,768,0,0,4096,14336,0,32768,98304,230144,492288,1016576,492288,4162304,8356608,16745216,0,0,134217727,268435455,0]
theorem qqq.tab32 : rtab .any (opsOf Try.f26 32) = qqq.T32 := by kernel_rfl
theorem qqq.bits32 : waitsOk qqq.T32.2 qqq.B32 = true := by kernel_rfl
set_option maxHeartbeats 8000000 in
set_option maxRecDepth 100000 in
theorem qqq.calls (k : Nat) (a0_0 : Int) (a0_1 : Int) (A0_2 : Option Addr) (c0_2 : Nat) (l0_2 : List ByteArray) (a0_3 : Int) (a1 : ByteArray) (a2 : ByteArray) (A3 : Option Addr) (c3 : Nat) (l3 : List StT) (r : List Int) (w : World) (htab : TabW w) (hr0_2 : Kd.C Kd.string w A0_2 l0_2.length l0_2) (hc0_2 : l0_2.length ≤ c0_2) (hr3 : Kd.C k82 w A3 l3.length l3) (hc3 : l3.length ≤ c3) (h : qqq.f k a0_0 a0_1 l0_2 a0_3 a1 a2 l3 = some r) :
  Calls Try.prog 26 #[.agg #[.int .i64 a0_0,.int .i64 a0_1,.slice A0_2 l0_2.length c0_2,.int .i64 a0_3],.string a1,.string a2,.slice A3 l3.length c3] w fun e w' => ∃ v0_ : Value,e = .returned (v0_) ∧ Kd.R (Kd.int .i64) 3 w' w.heap.size (fun _ => True) v0_ r ∧ Below w.heap.size w w' := by
 have HTAB := qq.mk htab
 have HR2 := qq.mk hr0_2
 have HR3 := qq.mk hr3
 have HC3 := qq.mk hc3
 have HH := qq.mk h
 have hmf : ∀ (fn : Fn) (first cap : Array Value) (w : World),(Instr.makeFunc fn first cap).run Try.prog w = .ok (.func fn first cap) w := fun _ _ _ _ => rfl
 clear htab hr0_2 hr3 hc3 hc0_2 h
 obtain ⟨B,eB⟩ : ∃ B,B = w.heap.size := ⟨_,rfl⟩
 obtain ⟨W0,eW0⟩ : ∃ W,W = (w.alloc (.cells #[.int .i64 a0_0,.int .i64 a0_1,.slice A0_2 l0_2.length c0_2,.int .i64 a0_3] 53 (0,0))).alloc (.cells #[.string a2] 9 (0,0)) := ⟨_,rfl⟩
 have HB0 : qq (Below w.heap.size w W0) := ⟨by rw [eW0];exact qj (qj (Below.refl _ _) _) _⟩
 have BR0 : qq (W0.heap[B]? = some (.cells #[.int .i64 a0_0,.int .i64 a0_1,.slice A0_2 l0_2.length c0_2,.int .i64 a0_3] 53 (0,0))) := ⟨by rw [eW0,eB];exact zq (blk_new _ _) _⟩
 have BP0 : qq (W0.heap[B + 1]? = some (.cells #[.string a2] 9 (0,0))) := ⟨by
  rw [eW0,eB]
  have e : (w.alloc (.cells #[.int .i64 a0_0,.int .i64 a0_1,.slice A0_2 l0_2.length c0_2,.int .i64 a0_3] 53 (0,0))).heap.size = w.heap.size + 1 := Array.size_push ..
  rw [← e]
  exact blk_new _ _⟩
 have HEB := qq.mk eB
 go_enter Try.func26,Try.ntmps26
 go_upto_region 1 with (fail)
 rw [← eW0,← eB]
 clear eW0 eB
 have b0 : W0.cell? ⟨B,0,none⟩ = some (.int .i64 a0_0) := (qw BR0.out 0).trans rfl
 have b1 : W0.cell? ⟨B,1,none⟩ = some (.int .i64 a0_1) := (qw BR0.out 1).trans rfl
 have b2 : W0.cell? ⟨B,2,none⟩ = some (.slice A0_2 l0_2.length c0_2) := (qw BR0.out 2).trans rfl
 have b3 : W0.cell? ⟨B,3,none⟩ = some (.int .i64 a0_3) := (qw BR0.out 3).trans rfl
 have b4 : W0.cell? ⟨B + 1,0,none⟩ = some (.string a2) := (qw BP0.out 0).trans rfl
 by_cases c0 : a0_0 < 1
 ·have hbad : r = [] := by
   have h := HH.out
   unfold qqq.f at h
   rw [if_pos (by unfold pfBad;omega)] at h
   exact (Option.some.inj h).symm
  have d0_0 : decide (a0_0 < 1) = true := decide_eq_true (by omega)
  subst hbad
  clear c0
  go_wp2
  go_ret
  exact ⟨_,rfl,Kd.R_nil _ _ _ _ _,HB0.out⟩
 have d0_0 : decide (a0_0 < 1) = false := decide_eq_false (by omega)
 by_cases c1 : 64 < a0_0
 ·have hbad : r = [] := by
   have h := HH.out
   unfold qqq.f at h
   rw [if_pos (by unfold pfBad;omega)] at h
   exact (Option.some.inj h).symm
  have d1_0 : decide (64 < a0_0) = true := decide_eq_true (by omega)
  subst hbad
  clear c0 c1
  go_wp2
  go_ret
  exact ⟨_,rfl,Kd.R_nil _ _ _ _ _,HB0.out⟩
 have d1_0 : decide (64 < a0_0) = false := decide_eq_false (by omega)
 by_cases c2 : a0_1 < 0
 ·have hbad : r = [] := by
   have h := HH.out
   unfold qqq.f at h
   rw [if_pos (by unfold pfBad;omega)] at h
   exact (Option.some.inj h).symm
  have d2_0 : decide (a0_1 < 0) = true := decide_eq_true (by omega)
  subst hbad
  clear c0 c1 c2
  go_wp2
  go_ret
  exact ⟨_,rfl,Kd.R_nil _ _ _ _ _,HB0.out⟩
 have d2_0 : decide (a0_1 < 0) = false := decide_eq_false (by omega)
 by_cases c3 : 4 < a0_1
 ·have hbad : r = [] := by
   have h := HH.out
   unfold qqq.f at h
   rw [if_pos (by unfold pfBad;omega)] at h
   exact (Option.some.inj h).symm
  have d3_0 : decide (4 < a0_1) = true := decide_eq_true (by omega)
  subst hbad
  clear c0 c1 c2 c3
  go_wp2
  go_ret
  exact ⟨_,rfl,Kd.R_nil _ _ _ _ _,HB0.out⟩
 have d3_0 : decide (4 < a0_1) = false := decide_eq_false (by omega)
 by_cases c4 : 20 < (l0_2.length : Int)
 ·have hbad : r = [] := by
   have h := HH.out
   unfold qqq.f at h
   rw [if_pos (by unfold pfBad;omega)] at h
   exact (Option.some.inj h).symm
  have d4_0 : decide (20 < (l0_2.length : Int)) = true := decide_eq_true (by omega)
  have d4_1 : decide (20 < l0_2.length) = true := decide_eq_true (by omega)
  subst hbad
  clear c0 c1 c2 c3 c4
  go_wp2
  go_ret
  exact ⟨_,rfl,Kd.R_nil _ _ _ _ _,HB0.out⟩
 have d4_0 : decide (20 < (l0_2.length : Int)) = false := decide_eq_false (by omega)
 have d4_1 : decide (20 < l0_2.length) = false := decide_eq_false (by omega)
 by_cases c5 : a0_3 < 0
 ·have hbad : r = [] := by
   have h := HH.out
   unfold qqq.f at h
   rw [if_pos (by unfold pfBad;omega)] at h
   exact (Option.some.inj h).symm
  have d5_0 : decide (a0_3 < 0) = true := decide_eq_true (by omega)
  subst hbad
  clear c0 c1 c2 c3 c4 c5
  go_wp2
  go_ret
  exact ⟨_,rfl,Kd.R_nil _ _ _ _ _,HB0.out⟩
 have d5_0 : decide (a0_3 < 0) = false := decide_eq_false (by omega)
 by_cases c6 : 10 < a0_3
 ·have hbad : r = [] := by
   have h := HH.out
   unfold qqq.f at h
   rw [if_pos (by unfold pfBad;omega)] at h
   exact (Option.some.inj h).symm
  have d6_0 : decide (10 < a0_3) = true := decide_eq_true (by omega)
  subst hbad
  clear c0 c1 c2 c3 c4 c5 c6
  go_wp2
  go_ret
  exact ⟨_,rfl,Kd.R_nil _ _ _ _ _,HB0.out⟩
 have d6_0 : decide (10 < a0_3) = false := decide_eq_false (by omega)
 by_cases c7 : 64 < (a1.size : Int)
 ·have hbad : r = [] := by
   have h := HH.out
   unfold qqq.f at h
   rw [if_pos (by unfold pfBad;omega)] at h
   exact (Option.some.inj h).symm
  have d7_0 : decide (64 < (a1.size : Int)) = true := decide_eq_true (by omega)
  have d7_1 : decide (64 < a1.size) = true := decide_eq_true (by omega)
  subst hbad
  clear c0 c1 c2 c3 c4 c5 c6 c7
  go_wp2
  go_ret
  exact ⟨_,rfl,Kd.R_nil _ _ _ _ _,HB0.out⟩
 have d7_0 : decide (64 < (a1.size : Int)) = false := decide_eq_false (by omega)
 have d7_1 : decide (64 < a1.size) = false := decide_eq_false (by omega)
 by_cases c8 : 1000 < (a2.size : Int)
 ·have hbad : r = [] := by
   have h := HH.out
   unfold qqq.f at h
   rw [if_pos (by unfold pfBad;omega)] at h
   exact (Option.some.inj h).symm
  have d8_0 : decide (1000 < (a2.size : Int)) = true := decide_eq_true (by omega)
  have d8_1 : decide (1000 < a2.size) = true := decide_eq_true (by omega)
  subst hbad
  clear c0 c1 c2 c3 c4 c5 c6 c7 c8
  go_wp2
  go_ret
  exact ⟨_,rfl,Kd.R_nil _ _ _ _ _,HB0.out⟩
 have d8_0 : decide (1000 < (a2.size : Int)) = false := decide_eq_false (by omega)
 have d8_1 : decide (1000 < a2.size) = false := decide_eq_false (by omega)
 by_cases c9 : 20 < (l3.length : Int)
 ·have hbad : r = [] := by
   have h := HH.out
   unfold qqq.f at h
   rw [if_pos (by unfold pfBad;omega)] at h
   exact (Option.some.inj h).symm
  have d9_0 : decide (20 < (l3.length : Int)) = true := decide_eq_true (by omega)
  have d9_1 : decide (20 < l3.length) = true := decide_eq_true (by omega)
  subst hbad
  clear c0 c1 c2 c3 c4 c5 c6 c7 c8 c9
  go_wp2
  go_ret
  exact ⟨_,rfl,Kd.R_nil _ _ _ _ _,HB0.out⟩
 have d9_0 : decide (20 < (l3.length : Int)) = false := decide_eq_false (by omega)
 have d9_1 : decide (20 < l3.length) = false := decide_eq_false (by omega)
 have HG : qq (1 ≤ a0_0 ∧ a0_0 ≤ 64 ∧ 0 ≤ a0_1 ∧ a0_1 ≤ 4 ∧ l0_2.length ≤ 20 ∧ 0 ≤ a0_3 ∧ a0_3 ≤ 10 ∧ a1.size ≤ 64 ∧ a2.size ≤ 1000 ∧ l3.length ≤ 20) := ⟨by omega⟩
 have HF : qq ((if l0_2.any badB = true then some [] else (anyO (heldBy k a2) (l3.take a0_3.toNat)).bind fun used => (qqw.f k a2 0 1000).bind fun t => some (fl 0 (pfList a0_0 a0_1 l0_2 a1 a2 t used))) = some r) := ⟨by
  have h := HH.out
  unfold qqq.f at h
  rw [if_neg (by unfold pfBad;omega)] at h
  exact h⟩
 clear HH c0 c1 c2 c3 c4 c5 c6 c7 c8 c9
 go_wp2
 clear d0_0 d1_0 d2_0 d3_0 d4_0 d4_1 d5_0 d6_0 d7_0 d7_1 d8_0 d8_1 d9_0 d9_1
 have HX0 : qq (Bx a0_0 a0_1 A0_2 l0_2.length c0_2 a0_3 a2 B w W0) := ⟨⟨HB0.out,BR0.out,BP0.out⟩⟩
 clear HB0 BR0 BP0 b0 b1 b2 b3 b4
 go_loopw [9,74] (fun v9 v74 W => ∃ i : Nat,v9 = .bool ((l0_2.take i).any (banF a2)) ∧ v74 = .int .i64 (i : Int) ∧ qq (i ≤ l0_2.length) ∧ qq ((l0_2.take i).any badB = false) ∧ qq (Bx a0_0 a0_1 A0_2 l0_2.length c0_2 a0_3 a2 B w W)) (fun _ v74 _ => l0_2.length - (intOf v74).toNat)
 case atStart => exact ⟨0,by simp,rfl,⟨Nat.zero_le _⟩,⟨by simp⟩,HX0⟩
 case round =>
 obtain ⟨i,rfl,rfl,HI,HNB,HX⟩ := hrel
 clear HX0
 by_cases hlt : i < l0_2.length
 ·have HLT := qq.mk hlt
  have hl1 : decide ((i : Int) < (l0_2.length : Int)) = true := decide_eq_true (by omega)
  have hl2 : decide (i < l0_2.length) = true := decide_eq_true hlt
  have p1 : 0 ≤ (i : Int) := by omega
  have q1 : (i : Int) < (l0_2.length : Int) := by omega
  obtain ⟨ad,e1,hx⟩ := Kd.at_string HR2.out (i : Int) p1 q1
  cases e1
  replace hx := (HX.out.1.cell (World.block_lt_of_cell? w _ hx)).trans hx
  replace p1 := eq_true p1
  replace q1 := eq_true q1
  have ex : rdOf ByteArray.empty l0_2 (i : Int) = l0_2[i] := by simp [rdOf,List.getD_eq_getElem?_getD,List.getElem?_eq_getElem hlt]
  rw [ex,Int.toNat_natCast] at hx
  have HBS := qq.mk (ban_step a2 l0_2 hlt)
  have HNS : qq ((l0_2.take (i + 1)).any badB = badB l0_2[i]) := ⟨by rw [List.take_succ_eq_append_getElem hlt,List.any_append,HNB.out];simp⟩
  have HIN : qq (l0_2[i] ∈ l0_2) := ⟨List.getElem_mem hlt⟩
  obtain ⟨b,eb⟩ : ∃ b,b = l0_2[i] := ⟨_,rfl⟩
  rw [← eb] at hx HBS HNS HIN
  obtain ⟨b0,b1,b2,b3,b4⟩ := HX.out.cells
  have e3 : wrap64 ((i : Int) + 1) = ((i + 1 : Nat) : Int) := wrap_upF hlt (by have := HG.out;omega)
  clear ex eb hlt
  by_cases c1 : b.size < 1
  ·have d1 : decide (b.size < 1) = true := decide_eq_true c1
   have d2 : decide ((b.size : Int) < 1) = true := decide_eq_true (by omega)
   have hbad : r = [] := by
    have h := HF.out
    rw [if_pos (List.any_eq_true.2 ⟨b,HIN.out,by unfold badB;rw [d1];simp⟩)] at h
    exact (Option.some.inj h).symm
   subst hbad
   go_wp2
   go_ret
   exact ⟨_,rfl,Kd.R_nil _ _ _ _ _,HX.out.1⟩
  have d1 : decide (b.size < 1) = false := decide_eq_false c1
  have d2 : decide ((b.size : Int) < 1) = false := decide_eq_false (by omega)
  by_cases c2 : 64 < b.size
  ·have d3 : decide (64 < b.size) = true := decide_eq_true c2
   have d4 : decide (64 < (b.size : Int)) = true := decide_eq_true (by omega)
   have hbad : r = [] := by
    have h := HF.out
    rw [if_pos (List.any_eq_true.2 ⟨b,HIN.out,by unfold badB;rw [d1,d3];simp⟩)] at h
    exact (Option.some.inj h).symm
   subst hbad
   go_wp2
   go_ret
   exact ⟨_,rfl,Kd.R_nil _ _ _ _ _,HX.out.1⟩
  have d3 : decide (64 < b.size) = false := decide_eq_false c2
  have d4 : decide (64 < (b.size : Int)) = false := decide_eq_false (by omega)
  have HNB2 : qq ((l0_2.take (i + 1)).any badB = false) := ⟨by rw [HNS.out];unfold badB;rw [d1,d3];rfl⟩
  have HUB : qq (qqk.f b = some (upperB b)) := ⟨upper_run b (by omega)⟩
  have HUP : qq (qqk.f a2 = some (upperB a2)) := ⟨upper_run a2 (by have := HG.out;omega)⟩
  have HCO : qq (strings_Contains.f (upperB a2) (upperB b) = some (banF a2 b)) := ⟨if_pos (by rw [upperB_size];have := HG.out;omega)⟩
  clear c1 c2 HNS HIN
  generalize hbn : (l0_2.take i).any (banF a2) = bn at HBS ⊢
  clear hbn
  cases bn
  ·go_wp2_with (first | (go_at_call 79;with_reducible refine (qqk.calls a2 _ _ HUP.out).mono ?_;rintro e w1 ⟨rfl,hb⟩;have HX1 := qq.mk (HX.out.step hb);clear hb) | (go_at_call 79;with_reducible refine (qqk.calls b _ _ HUB.out).mono ?_;rintro e w2 ⟨rfl,hb⟩;have HX2 := qq.mk (HX1.out.step hb);clear hb) | (go_at_call 78;with_reducible refine (strings_Contains.calls (upperB a2) (upperB b) _ _ (TabW_below HTAB.out HX2.out.below) HCO.out).mono ?_;rintro e w3 ⟨rfl,⟨⟨nd,rfl⟩⟩⟩))
   try simp only [e3]
   go_roundw
   case rel => exact ⟨i + 1,by rw [HBS.out,Bool.false_or],rfl,⟨HLT.out⟩,HNB2,⟨HX2.out.drewN nd⟩⟩
   case measure =>
    show l0_2.length - (((i + 1 : Nat) : Int)).toNat < l0_2.length - ((i : Int)).toNat
    rw [Int.toNat_natCast,Int.toNat_natCast]
    exact Nat.sub_lt_sub_left HLT.out (Nat.lt_succ_self i)
  ·go_wp2
   try simp only [e3]
   go_roundw
   case rel => exact ⟨i + 1,by rw [HBS.out,Bool.true_or],rfl,⟨HLT.out⟩,HNB2,HX⟩
   case measure =>
    show l0_2.length - (((i + 1 : Nat) : Int)).toNat < l0_2.length - ((i : Int)).toNat
    rw [Int.toNat_natCast,Int.toNat_natCast]
    exact Nat.sub_lt_sub_left HLT.out (Nat.lt_succ_self i)
 ·obtain rfl : i = l0_2.length := by have := HI.out;omega
  have hl1 : decide ((l0_2.length : Int) < (l0_2.length : Int)) = false := decide_eq_false (by omega)
  have hl2 : decide (l0_2.length < l0_2.length) = false := decide_eq_false (by omega)
  rw [List.take_length] at HNB ⊢
  have HF2 : qq (((anyO (heldBy k a2) (l3.take a0_3.toNat)).bind fun used => (qqw.f k a2 0 1000).bind fun t => some (fl 0 (pfList a0_0 a0_1 l0_2 a1 a2 t used))) = some r) := ⟨by
   have h := HF.out
   rw [if_neg (by rw [HNB.out];simp)] at h
   exact h⟩
  clear HF HI HNB hlt
  obtain ⟨W1,rfl⟩ : ∃ W1,W1 = wr := ⟨_,rfl⟩
  obtain ⟨b0,b1,b2,b3,b4⟩ := HX.out.cells
  have HB0 : qq (Below W1.heap.size W1 (W1.alloc (.cells (kcells a2 0) 108 (0,0)))) := ⟨qj (Below.refl _ _) _⟩
  have HK0 : qq ((W1.alloc (.cells (kcells a2 0) 108 (0,0))).heap[W1.heap.size]? = some (.cells (kcells a2 0) 108 (0,0))) := ⟨blk_new _ _⟩
  have b4 : (W1.alloc (.cells #[.bool false,.bool false,.bool false,.bool false] 108 (0,0))).cell? ⟨B + 1,0,none⟩ = some (.string a2) := (HX.out.step HB0.out).cells.2.2.2.2
  clear b0 b1 b2 b3
  obtain ⟨bn,ebn⟩ : ∃ b_,b_ = l0_2.any (banF a2) := ⟨_,rfl⟩
  rw [← ebn]
  have HBN := qq.mk ebn
  clear ebn
  go_wp2
  clear hl1 hl2 b4
  obtain ⟨B2,eB2⟩ : ∃ B2,B2 = W1.heap.size := ⟨_,rfl⟩
  rw [← eB2] at HK0 ⊢
  have HEB2 := qq.mk eB2
  clear eB2
  go_loopw [97] (fun v97 W => ∃ i : Nat,v97 = .int .i64 (i : Int) ∧ qq (i ≤ a2.size) ∧ qq (Below W1.heap.size W1 W) ∧ qq (W.heap[B2]? = some (.cells (kcells a2 i) 108 (0,0)))) (fun v97 _ => a2.size - (intOf v97).toNat)
  case atStart => exact ⟨0,rfl,⟨Nat.zero_le _⟩,HB0,HK0⟩
  case round =>
  obtain ⟨i,rfl,HI,HB,HK⟩ := hrel
  clear HB0 HK0
  have b4 : wr.cell? ⟨B + 1,0,none⟩ = some (.string a2) := (HX.out.step HB.out).cells.2.2.2.2
  by_cases hlt : i < a2.size
  ·have HLT := qq.mk hlt
   have hl1 : decide ((i : Int) < (a2.size : Int)) = true := decide_eq_true (by omega)
   have hl2 : decide (i < a2.size) = true := decide_eq_true hlt
   have p1 : (0 ≤ (i : Int)) = True := eq_true (by omega)
   have q1 : ((i : Int) < (a2.size : Int)) = True := eq_true (by omega)
   have hx : (((a2[i]'hlt).toNat : Nat) : Int) = bt a2 (i : Int) := bt_at a2 (i : Int) hlt
   have e3 := wrap_upK hlt (by have := HG.out;omega)
   obtain ⟨x,ex⟩ : ∃ x,x = bt a2 (i : Int) := ⟨_,rfl⟩
   rw [← ex] at hx
   have HEX := qq.mk ex
   clear ex
   by_cases c1 : 97 ≤ x ∧ x ≤ 122
   ·obtain ⟨c1,c2⟩ := c1
    have d1 : decide (97 ≤ x) = true := decide_eq_true c1
    have d2 : decide (x ≤ 122) = true := decide_eq_true c2
    have hkc : kcl (bt a2 (i : Int)) = 0 := by rw [← HEX.out];unfold kcl;rw [if_pos ⟨c1,c2⟩]
    have HS := qq.mk (ksteps B2 108 a2 i 0 W1 wr HK.out HB.out (Nat.le_of_eq HEB2.out.symm) hkc)
    have hc := qw HK.out 0
    have hc : wr.cell? ⟨B2,0,none⟩ = some (.bool (kin a2 0 i)) := hc.trans rfl
    have hf := qv HK.out 0
    clear HK HB hkc
    go_wp2
    try simp only [e3]
    go_roundw
    case rel => exact ⟨i + 1,rfl,⟨HLT.out⟩,⟨HS.out.2⟩,⟨HS.out.1⟩⟩
    case measure =>
     show a2.size - (((i + 1 : Nat) : Int)).toNat < a2.size - ((i : Int)).toNat
     rw [Int.toNat_natCast,Int.toNat_natCast]
     exact Nat.sub_lt_sub_left HLT.out (Nat.lt_succ_self i)
   have hn1 := c1
   have HN1 : (¬ 97 ≤ x ∧ decide (97 ≤ x) = false) ∨ (97 ≤ x ∧ decide (97 ≤ x) = true ∧ decide (x ≤ 122) = false) := by
    by_cases h : 97 ≤ x
    ·exact .inr ⟨h,decide_eq_true h,decide_eq_false (fun g => c1 ⟨h,g⟩)⟩
    ·exact .inl ⟨h,decide_eq_false h⟩
   by_cases c3 : 65 ≤ x ∧ x ≤ 90
   ·obtain ⟨c3,c4⟩ := c3
    have d0 : decide (97 ≤ x) = false := decide_eq_false (by omega)
    have d3 : decide (65 ≤ x) = true := decide_eq_true c3
    have d4 : decide (x ≤ 90) = true := decide_eq_true c4
    have hkc : kcl (bt a2 (i : Int)) = 1 := by rw [← HEX.out];unfold kcl;rw [if_neg hn1,if_pos ⟨c3,c4⟩]
    have HS := qq.mk (ksteps B2 108 a2 i 1 W1 wr HK.out HB.out (Nat.le_of_eq HEB2.out.symm) hkc)
    have hc := qw HK.out 1
    have hc : wr.cell? ⟨B2,1,none⟩ = some (.bool (kin a2 1 i)) := hc.trans rfl
    have hf := qv HK.out 1
    clear HK HB hkc
    go_wp2
    try simp only [e3]
    go_roundw
    case rel => exact ⟨i + 1,rfl,⟨HLT.out⟩,⟨HS.out.2⟩,⟨HS.out.1⟩⟩
    case measure =>
     show a2.size - (((i + 1 : Nat) : Int)).toNat < a2.size - ((i : Int)).toNat
     rw [Int.toNat_natCast,Int.toNat_natCast]
     exact Nat.sub_lt_sub_left HLT.out (Nat.lt_succ_self i)
   have hn2 := c3
   by_cases hdg : 48 ≤ x ∧ x ≤ 57
   ·have HDG : qq (qqv.f x = some true) := ⟨by unfold qqv.f;rw [if_pos (by omega),decide_eq_true hdg.2]⟩
    have d0 : decide (97 ≤ x) = false := decide_eq_false (by omega)
    have d1 : decide (65 ≤ x) = false := decide_eq_false (by omega)
    have hkc : kcl (bt a2 (i : Int)) = 2 := by rw [← HEX.out];unfold kcl;rw [if_neg hn1,if_neg hn2,if_pos hdg]
    have HS := qq.mk (ksteps B2 108 a2 i 2 W1 wr HK.out HB.out (Nat.le_of_eq HEB2.out.symm) hkc)
    have hc := qw HK.out 2
    have hc : wr.cell? ⟨B2,2,none⟩ = some (.bool (kin a2 2 i)) := hc.trans rfl
    have hf := qv HK.out 2
    clear HK HB hkc
    go_wp2_with (go_at_call 80;refine (qqv.calls x true wr HDG.out).mono ?_;rintro e w' ⟨rfl,⟨⟨nd,rfl⟩⟩⟩)
    go_wp2
    try simp only [e3]
    go_roundw
    case rel => exact ⟨i + 1,rfl,⟨HLT.out⟩,⟨qz HS.out.2 nd⟩,⟨zz HS.out.1 nd⟩⟩
    case measure =>
     show a2.size - (((i + 1 : Nat) : Int)).toNat < a2.size - ((i : Int)).toNat
     rw [Int.toNat_natCast,Int.toNat_natCast]
     exact Nat.sub_lt_sub_left HLT.out (Nat.lt_succ_self i)
   have HDG : qq (qqv.f x = some false) := ⟨by
    unfold qqv.f
    by_cases h : x ≥ 48
    ·rw [if_pos h,decide_eq_false (fun g => hdg ⟨h,g⟩)]
    ·rw [if_neg h]⟩
   have HN2 : decide (65 ≤ x) = false ∨ (decide (65 ≤ x) = true ∧ decide (x ≤ 90) = false) := by
    by_cases h : 65 ≤ x
    ·exact .inr ⟨decide_eq_true h,decide_eq_false (fun g => c3 ⟨h,g⟩)⟩
    ·exact .inl (decide_eq_false h)
   rcases HN1 with ⟨_,d0⟩ | ⟨g97,d0,d1⟩
   ·rcases HN2 with d2 | ⟨d2,d3⟩
    ·skip
     have hkc : kcl (bt a2 (i : Int)) = 3 := by rw [← HEX.out];unfold kcl;rw [if_neg hn1,if_neg hn2,if_neg hdg]
     have HS := qq.mk (ksteps B2 108 a2 i 3 W1 wr HK.out HB.out (Nat.le_of_eq HEB2.out.symm) hkc)
     have hc := qw HK.out 3
     have hc : wr.cell? ⟨B2,3,none⟩ = some (.bool (kin a2 3 i)) := hc.trans rfl
     have hf := qv HK.out 3
     clear HK HB hkc
     go_wp2_with (go_at_call 80;refine (qqv.calls x false wr HDG.out).mono ?_;rintro e w' ⟨rfl,⟨⟨nd,rfl⟩⟩⟩)
     go_wp2
     try simp only [e3]
     go_roundw
     case rel => exact ⟨i + 1,rfl,⟨HLT.out⟩,⟨qz HS.out.2 nd⟩,⟨zz HS.out.1 nd⟩⟩
     case measure =>
      show a2.size - (((i + 1 : Nat) : Int)).toNat < a2.size - ((i : Int)).toNat
      rw [Int.toNat_natCast,Int.toNat_natCast]
      exact Nat.sub_lt_sub_left HLT.out (Nat.lt_succ_self i)
    ·skip
     have hkc : kcl (bt a2 (i : Int)) = 3 := by rw [← HEX.out];unfold kcl;rw [if_neg hn1,if_neg hn2,if_neg hdg]
     have HS := qq.mk (ksteps B2 108 a2 i 3 W1 wr HK.out HB.out (Nat.le_of_eq HEB2.out.symm) hkc)
     have hc := qw HK.out 3
     have hc : wr.cell? ⟨B2,3,none⟩ = some (.bool (kin a2 3 i)) := hc.trans rfl
     have hf := qv HK.out 3
     clear HK HB hkc
     go_wp2_with (go_at_call 80;refine (qqv.calls x false wr HDG.out).mono ?_;rintro e w' ⟨rfl,⟨⟨nd,rfl⟩⟩⟩)
     go_wp2
     try simp only [e3]
     go_roundw
     case rel => exact ⟨i + 1,rfl,⟨HLT.out⟩,⟨qz HS.out.2 nd⟩,⟨zz HS.out.1 nd⟩⟩
     case measure =>
      show a2.size - (((i + 1 : Nat) : Int)).toNat < a2.size - ((i : Int)).toNat
      rw [Int.toNat_natCast,Int.toNat_natCast]
      exact Nat.sub_lt_sub_left HLT.out (Nat.lt_succ_self i)
   ·have d2 : decide (65 ≤ x) = true := decide_eq_true (by omega)
    have d3 : decide (x ≤ 90) = false := decide_eq_false (by omega)
    have hkc : kcl (bt a2 (i : Int)) = 3 := by rw [← HEX.out];unfold kcl;rw [if_neg hn1,if_neg hn2,if_neg hdg]
    have HS := qq.mk (ksteps B2 108 a2 i 3 W1 wr HK.out HB.out (Nat.le_of_eq HEB2.out.symm) hkc)
    have hc := qw HK.out 3
    have hc : wr.cell? ⟨B2,3,none⟩ = some (.bool (kin a2 3 i)) := hc.trans rfl
    have hf := qv HK.out 3
    clear HK HB hkc
    go_wp2_with (go_at_call 80;refine (qqv.calls x false wr HDG.out).mono ?_;rintro e w' ⟨rfl,⟨⟨nd,rfl⟩⟩⟩)
    go_wp2
    try simp only [e3]
    go_roundw
    case rel => exact ⟨i + 1,rfl,⟨HLT.out⟩,⟨qz HS.out.2 nd⟩,⟨zz HS.out.1 nd⟩⟩
    case measure =>
     show a2.size - (((i + 1 : Nat) : Int)).toNat < a2.size - ((i : Int)).toNat
     rw [Int.toNat_natCast,Int.toNat_natCast]
     exact Nat.sub_lt_sub_left HLT.out (Nat.lt_succ_self i)
  ·obtain rfl : i = a2.size := by have := HI.out;omega
   have hl1 : decide ((a2.size : Int) < (a2.size : Int)) = false := decide_eq_false (by omega)
   have hl2 : decide (a2.size < a2.size) = false := decide_eq_false (by omega)
   have hc0 : wr.cell? ⟨B2,0,none⟩ = some (.bool (kin a2 0 a2.size)) := (qw HK.out 0).trans rfl
   have hc1 : wr.cell? ⟨B2,1,none⟩ = some (.bool (kin a2 1 a2.size)) := (qw HK.out 1).trans rfl
   have hc2 : wr.cell? ⟨B2,2,none⟩ = some (.bool (kin a2 2 a2.size)) := (qw HK.out 2).trans rfl
   have hc3 : wr.cell? ⟨B2,3,none⟩ = some (.bool (kin a2 3 a2.size)) := (qw HK.out 3).trans rfl
   clear hlt HI
   go_wp2
   clear hc0 hc1 hc2 hc3 b4 hl1 hl2
   have HXA : qq (Bx a0_0 a0_1 A0_2 l0_2.length c0_2 a0_3 a2 B w wr) := ⟨HX.out.step HB.out⟩
   clear HX HB HK
   have HKN : qq (kindsN a2 = ksum (kin a2 0 a2.size) (kin a2 1 a2.size) (kin a2 2 a2.size) (kin a2 3 a2.size) 4) := ⟨rfl⟩
   generalize kin a2 0 a2.size = k0 at HKN ⊢
   generalize kin a2 1 a2.size = k1 at HKN ⊢
   generalize kin a2 2 a2.size = k2 at HKN ⊢
   generalize kin a2 3 a2.size = k3 at HKN ⊢
   go_loopw [15,126] (fun v15 v126 W => ∃ i : Nat,v15 = .int .i64 (ksum k0 k1 k2 k3 i : Int) ∧ v126 = .int .i64 (i : Int) ∧ qq (i ≤ 4) ∧ qq (Bx a0_0 a0_1 A0_2 l0_2.length c0_2 a0_3 a2 B w W)) (fun _ v126 _ => 4 - (intOf v126).toNat)
   case atStart => exact ⟨0,rfl,rfl,⟨by omega⟩,HXA⟩
   case round =>
   obtain ⟨i,rfl,rfl,HI,HX⟩ := hrel
   clear HXA
   have hi : i = 0 ∨ i = 1 ∨ i = 2 ∨ i = 3 ∨ i = 4 := by have := HI.out;omega
   clear HI
   rcases hi with rfl | rfl | rfl | rfl | rfl
   ·have hix : ∀ W : World,(Instr.index 108 (.agg #[.bool k0,.bool k1,.bool k2,.bool k3]) (.int .i64 0)).run Try.prog W = .ok (.bool k0) W := fun W => by kernel_rfl
    have e3 : wrap64 (0 + 1) = 1 := by unfold wrap64;omega
    have e6 : wrap64 1 = 1 := by unfold wrap64;omega
    have HS : qq (ksum k0 k1 k2 k3 1 = ksum k0 k1 k2 k3 0 + b2n k0) := ⟨by simp [ksum]⟩
    have hcl := ksum_le k0 k1 k2 k3 0
    obtain ⟨c,ec⟩ : ∃ c,c = ksum k0 k1 k2 k3 0 := ⟨_,rfl⟩
    rw [← ec] at hcl HS ⊢
    clear ec
    have e5 : wrap64 ((c : Int) + 1) = ((c + 1 : Nat) : Int) := by unfold wrap64;omega
    have e7 : wrap64 ((c : Int) + 0) = (c : Int) := by unfold wrap64;omega
    have e8 : wrap64 (c : Int) = (c : Int) := by unfold wrap64;omega
    clear hcl
    cases k0
    ·go_wp2_with (go_at_call 81;refine (qqx.calls false 0 _ rfl).mono ?_;rintro e w' ⟨rfl,⟨⟨nd,rfl⟩⟩⟩)
     try simp only [e3,e5,e6,e7,e8]
     go_roundw
     case rel => exact ⟨1,by rw [HS.out];rfl,rfl,⟨by omega⟩,⟨HX.out.drewN nd⟩⟩
     case measure => decide
    ·go_wp2_with (go_at_call 81;refine (qqx.calls true 1 _ rfl).mono ?_;rintro e w' ⟨rfl,⟨⟨nd,rfl⟩⟩⟩)
     try simp only [e3,e5,e6,e7,e8]
     go_roundw
     case rel => exact ⟨1,by rw [HS.out];rfl,rfl,⟨by omega⟩,⟨HX.out.drewN nd⟩⟩
     case measure => decide
   ·have hix : ∀ W : World,(Instr.index 108 (.agg #[.bool k0,.bool k1,.bool k2,.bool k3]) (.int .i64 1)).run Try.prog W = .ok (.bool k1) W := fun W => by kernel_rfl
    have e3 : wrap64 (1 + 1) = 2 := by unfold wrap64;omega
    have e6 : wrap64 2 = 2 := by unfold wrap64;omega
    have HS : qq (ksum k0 k1 k2 k3 2 = ksum k0 k1 k2 k3 1 + b2n k1) := ⟨by simp [ksum]⟩
    have hcl := ksum_le k0 k1 k2 k3 1
    obtain ⟨c,ec⟩ : ∃ c,c = ksum k0 k1 k2 k3 1 := ⟨_,rfl⟩
    rw [← ec] at hcl HS ⊢
    clear ec
    have e5 : wrap64 ((c : Int) + 1) = ((c + 1 : Nat) : Int) := by unfold wrap64;omega
    have e7 : wrap64 ((c : Int) + 0) = (c : Int) := by unfold wrap64;omega
    have e8 : wrap64 (c : Int) = (c : Int) := by unfold wrap64;omega
    clear hcl
    cases k1
    ·go_wp2_with (go_at_call 81;refine (qqx.calls false 0 _ rfl).mono ?_;rintro e w' ⟨rfl,⟨⟨nd,rfl⟩⟩⟩)
     try simp only [e3,e5,e6,e7,e8]
     go_roundw
     case rel => exact ⟨2,by rw [HS.out];rfl,rfl,⟨by omega⟩,⟨HX.out.drewN nd⟩⟩
     case measure => decide
    ·go_wp2_with (go_at_call 81;refine (qqx.calls true 1 _ rfl).mono ?_;rintro e w' ⟨rfl,⟨⟨nd,rfl⟩⟩⟩)
     try simp only [e3,e5,e6,e7,e8]
     go_roundw
     case rel => exact ⟨2,by rw [HS.out];rfl,rfl,⟨by omega⟩,⟨HX.out.drewN nd⟩⟩
     case measure => decide
   ·have hix : ∀ W : World,(Instr.index 108 (.agg #[.bool k0,.bool k1,.bool k2,.bool k3]) (.int .i64 2)).run Try.prog W = .ok (.bool k2) W := fun W => by kernel_rfl
    have e3 : wrap64 (2 + 1) = 3 := by unfold wrap64;omega
    have e6 : wrap64 3 = 3 := by unfold wrap64;omega
    have HS : qq (ksum k0 k1 k2 k3 3 = ksum k0 k1 k2 k3 2 + b2n k2) := ⟨by simp [ksum]⟩
    have hcl := ksum_le k0 k1 k2 k3 2
    obtain ⟨c,ec⟩ : ∃ c,c = ksum k0 k1 k2 k3 2 := ⟨_,rfl⟩
    rw [← ec] at hcl HS ⊢
    clear ec
    have e5 : wrap64 ((c : Int) + 1) = ((c + 1 : Nat) : Int) := by unfold wrap64;omega
    have e7 : wrap64 ((c : Int) + 0) = (c : Int) := by unfold wrap64;omega
    have e8 : wrap64 (c : Int) = (c : Int) := by unfold wrap64;omega
    clear hcl
    cases k2
    ·go_wp2_with (go_at_call 81;refine (qqx.calls false 0 _ rfl).mono ?_;rintro e w' ⟨rfl,⟨⟨nd,rfl⟩⟩⟩)
     try simp only [e3,e5,e6,e7,e8]
     go_roundw
     case rel => exact ⟨3,by rw [HS.out];rfl,rfl,⟨by omega⟩,⟨HX.out.drewN nd⟩⟩
     case measure => decide
    ·go_wp2_with (go_at_call 81;refine (qqx.calls true 1 _ rfl).mono ?_;rintro e w' ⟨rfl,⟨⟨nd,rfl⟩⟩⟩)
     try simp only [e3,e5,e6,e7,e8]
     go_roundw
     case rel => exact ⟨3,by rw [HS.out];rfl,rfl,⟨by omega⟩,⟨HX.out.drewN nd⟩⟩
     case measure => decide
   ·have hix : ∀ W : World,(Instr.index 108 (.agg #[.bool k0,.bool k1,.bool k2,.bool k3]) (.int .i64 3)).run Try.prog W = .ok (.bool k3) W := fun W => by kernel_rfl
    have e3 : wrap64 (3 + 1) = 4 := by unfold wrap64;omega
    have e6 : wrap64 4 = 4 := by unfold wrap64;omega
    have HS : qq (ksum k0 k1 k2 k3 4 = ksum k0 k1 k2 k3 3 + b2n k3) := ⟨by simp [ksum]⟩
    have hcl := ksum_le k0 k1 k2 k3 3
    obtain ⟨c,ec⟩ : ∃ c,c = ksum k0 k1 k2 k3 3 := ⟨_,rfl⟩
    rw [← ec] at hcl HS ⊢
    clear ec
    have e5 : wrap64 ((c : Int) + 1) = ((c + 1 : Nat) : Int) := by unfold wrap64;omega
    have e7 : wrap64 ((c : Int) + 0) = (c : Int) := by unfold wrap64;omega
    have e8 : wrap64 (c : Int) = (c : Int) := by unfold wrap64;omega
    clear hcl
    cases k3
    ·go_wp2_with (go_at_call 81;refine (qqx.calls false 0 _ rfl).mono ?_;rintro e w' ⟨rfl,⟨⟨nd,rfl⟩⟩⟩)
     try simp only [e3,e5,e6,e7,e8]
     go_roundw
     case rel => exact ⟨4,by rw [HS.out];rfl,rfl,⟨by omega⟩,⟨HX.out.drewN nd⟩⟩
     case measure => decide
    ·go_wp2_with (go_at_call 81;refine (qqx.calls true 1 _ rfl).mono ?_;rintro e w' ⟨rfl,⟨⟨nd,rfl⟩⟩⟩)
     try simp only [e3,e5,e6,e7,e8]
     go_roundw
     case rel => exact ⟨4,by rw [HS.out];rfl,rfl,⟨by omega⟩,⟨HX.out.drewN nd⟩⟩
     case measure => decide
   ·rw [← HKN.out]
    obtain ⟨b0,b1,b2,b3,b4⟩ := HX.out.cells
    clear b0 b1 b2 b4
    obtain ⟨M,eM⟩ : ∃ M : Int,M = (if a0_3 < (l3.length : Int) then a0_3 else (l3.length : Int)) := ⟨_,rfl⟩
    have hg := HG.out
    have hM0 : 0 ≤ M := by rw [eM];split <;> omega
    have hMl : M ≤ (l3.length : Int) := by rw [eM];split <;> omega
    have hL : l3.take M.toNat = l3.take a0_3.toNat := by
     by_cases h : a0_3 < (l3.length : Int)
     ·rw [eM,if_pos h]
     ·rw [eM,if_neg h,List.take_of_length_le (by omega),List.take_of_length_le (by omega)]
    have hy : (l3.take M.toNat).length = M.toNat := by rw [List.length_take];omega
    have hrl := Kd.C_take (m := M.toNat) (Kd.C_below HR3.out HX.out.1) (by omega)
    obtain ⟨i0,hi0,_,hsz,_⟩ := info_parts info82
    have hcut := cut_to (P := Try.prog) 55 82 .i64 Try.underlying55 hi0 A3 l3.length c3 M hM0 hMl HC3.out
    have h := HF2.out
    rw [← hL] at h
    clear hL HF2 hg hM0 hMl hi0 hsz
    obtain ⟨Ls,eL⟩ : ∃ x,x = l3.take M.toNat := ⟨_,rfl⟩
    rw [← eL] at hy hrl h
    clear eL
    rw [← hy] at hcut
    clear hy
    have hM := eM.symm
    clear eM
    obtain ⟨used,hused,h⟩ := Option.bind_eq_some_iff.mp h
    obtain ⟨t,ht,h⟩ := Option.bind_eq_some_iff.mp h
    have HRES := qq.mk (Option.some.inj h)
    have HRL := qq.mk hrl
    have HUS := qq.mk hused
    have HT := qq.mk ht
    clear h hrl hused ht
    have hl1 : ∀ x : Nat,x = x := fun _ => rfl
    go_wp2_with (go_at_call 82;refine (containsHeld_calls k a2 (B + 1) A3 c3 Ls used _ HX.out.cells.2.2.2.2 HRL.out HUS.out).mono ?_;rintro e w1 ⟨rfl,hb⟩;have n0_ := qq.mk (HX.out.step hb);clear hb HX;have HX := n0_;clear n0_)
    clear b3 hcut hM hl1
    have HUP : qq (qqk.f a2 = some (upperB a2)) := ⟨upper_run a2 (by have := HG.out;omega)⟩
    have HU1 : qq (qqk.f a1 = some (upperB a1)) := ⟨upper_run a1 (by have := HG.out;omega)⟩
    have HCO : qq (strings_Contains.f (upperB a2) (upperB a1) = some (banF a2 a1)) := ⟨if_pos (by rw [upperB_size];have := HG.out;omega)⟩
    by_cases hu : 3 ≤ a1.size
    ·skip
     have dq : decide (3 ≤ (a1.size : Int)) = true := decide_eq_true (by omega)
     have dr : decide (3 ≤ a1.size) = true := decide_eq_true hu
     obtain ⟨y,ey⟩ : ∃ y_ : List Bool,y_ = [decide ((a2.size : Int) < a0_0),decide ((a2.size : Int) > 64),!t,decide ((kindsN a2 : Int) < a0_1),banF a2 a1,bn,used] := ⟨_,rfl⟩
     have HYL : qq (y.length = 7) := ⟨by rw [ey];rfl⟩
     have HY : qq (fl 0 y = r) := ⟨by
      rw [← HRES.out,ey]
      unfold pfList
      rw [dr,HBN.out,show decide ((a2.size : Int) > 64) = decide (64 < a2.size) from decide_eq_decide.mpr (by omega)]
      simp only [Bool.true_and,Bool.false_and]⟩
     have Ny := qq.mk ey
     clear ey hu
     (first | rw [dr] | (rw [dq]) | skip)
     have n0_ := qq.mk (HX.out.step (qk (Below.refl _ _)))
     clear HX
     have HX := n0_
     clear n0_
     refine start_ (n := 30) (S := fun w' => w'.cell? ⟨B,0,none⟩ = some (.int .i64 a0_0) ∧ w'.cell? ⟨B,1,none⟩ = some (.int .i64 a0_1) ∧ w'.cell? ⟨B + 1,0,none⟩ = some (.string a2)) (ds := []) #[false,false,false,false,false,false,false,false,false,false,false,false,false,false,false,false,false,false,false,false,false,false,false,false,false,false,false,false,false,false] (by kernel_rfl) rfl rfl ⟨HX.out.cells.1,HX.out.cells.2.1,HX.out.cells.2.2.2.2⟩ (fun hHeld => ?_);refine with_tabW qqq.tab32 qqq.bits32 (fun HT_ HW_ => ?_)
     generalize w1.drew = wd at HX hHeld ⊢
     refine pure_ (i := 2) (N := some 145) (v := ?_) (a' := ?_) #[false,false,true,false,false,false,false,false,false,false,false,false,false,false,false,false,false,false,false,false,false,false,false,false,false,false,false,false,false,false] rfl rfl (any_of HT_.out (by kernel_rfl)) (fun _ _ _ h => h) (Or.inl ⟨by rfl,?_⟩) ?_ ?_
     rotate_left
     ·intro w'
      go_simp
      with_reducible rfl
     rotate_left
     ·simp only [Act.put,List.setIfInBounds_toArray,List.set_cons_zero,List.set_cons_succ,i64_w,i32_w]
      rfl
     refine pure_ (i := 11) (N := some 154) (v := ?_) (a' := ?_) #[false,false,true,false,false,false,false,false,false,false,false,true,false,false,false,false,false,false,false,false,false,false,false,false,false,false,false,false,false,false] rfl rfl (any_of HT_.out (by kernel_rfl)) (fun _ _ _ h => h) (Or.inl ⟨by rfl,?_⟩) ?_ ?_
     rotate_left
     ·intro w'
      go_simp
      with_reducible rfl
     rotate_left
     ·simp only [Act.put,List.setIfInBounds_toArray,List.set_cons_zero,List.set_cons_succ,i64_w,i32_w]
      rfl
     refine pure_ (i := 12) (N := some 155) (v := ?_) (a' := ?_) #[false,false,true,false,false,false,false,false,false,false,false,true,true,false,false,false,false,false,false,false,false,false,false,false,false,false,false,false,false,false] rfl rfl (any_of HT_.out (by kernel_rfl)) (fun _ _ _ h => h) (Or.inl ⟨by rfl,?_⟩) ?_ ?_
     rotate_left
     ·intro w'
      go_simp
      with_reducible rfl
     rotate_left
     ·simp only [Act.put,List.setIfInBounds_toArray,List.set_cons_zero,List.set_cons_succ,i64_w,i32_w]
      rfl
     refine pure_ (i := 15) (N := some 158) (v := ?_) (a' := ?_) #[false,false,true,false,false,false,false,false,false,false,false,true,true,false,false,true,false,false,false,false,false,false,false,false,false,false,false,false,false,false] rfl rfl (any_of HT_.out (by kernel_rfl)) (fun _ _ _ h => h) (Or.inl ⟨by rfl,?_⟩) ?_ ?_
     rotate_left
     ·intro w'
      go_simp
      with_reducible rfl
     rotate_left
     ·simp only [Act.put,List.setIfInBounds_toArray,List.set_cons_zero,List.set_cons_succ,i64_w,i32_w]
      rfl
     refine pure_ (i := 16) (N := some 159) (v := ?_) (a' := ?_) #[false,false,true,false,false,false,false,false,false,false,false,true,true,false,false,true,true,false,false,false,false,false,false,false,false,false,false,false,false,false] rfl rfl (any_of HT_.out (by kernel_rfl)) (fun _ _ _ h => h) (Or.inl ⟨by rfl,?_⟩) ?_ ?_
     rotate_left
     ·intro w'
      go_simp
      with_reducible rfl
     rotate_left
     ·simp only [Act.put,List.setIfInBounds_toArray,List.set_cons_zero,List.set_cons_succ,i64_w,i32_w]
      rfl
     refine pure_ (i := 17) (N := some 160) (v := ?_) (a' := ?_) #[false,false,true,false,false,false,false,false,false,false,false,true,true,false,false,true,true,true,false,false,false,false,false,false,false,false,false,false,false,false] rfl rfl (any_of HT_.out (by kernel_rfl)) (fun _ _ _ h => h) (Or.inl ⟨by rfl,?_⟩) ?_ ?_
     rotate_left
     ·intro w'
      go_simp
      with_reducible rfl
     rotate_left
     ·simp only [Act.put,List.setIfInBounds_toArray,List.set_cons_zero,List.set_cons_succ,i64_w,i32_w]
      rfl
     refine pure_ (i := 25) (N := some 168) (v := ?_) (a' := ?_) #[false,false,true,false,false,false,false,false,false,false,false,true,true,false,false,true,true,true,false,false,false,false,false,false,false,true,false,false,false,false] rfl rfl (any_of HT_.out (by kernel_rfl)) (fun _ _ _ h => h) (Or.inl ⟨by rfl,?_⟩) ?_ ?_
     rotate_left
     ·intro w'
      go_simp
      with_reducible rfl
     rotate_left
     ·simp only [Act.put,List.setIfInBounds_toArray,List.set_cons_zero,List.set_cons_succ,i64_w,i32_w]
      rfl
     refine pure_ (i := 26) (N := some 169) (v := ?_) (a' := ?_) #[false,false,true,false,false,false,false,false,false,false,false,true,true,false,false,true,true,true,false,false,false,false,false,false,false,true,true,false,false,false] rfl rfl (any_of HT_.out (by kernel_rfl)) (fun _ _ _ h => h) (Or.inl ⟨by rfl,?_⟩) ?_ ?_
     rotate_left
     ·intro w'
      go_simp
      with_reducible rfl
     rotate_left
     ·simp only [Act.put,List.setIfInBounds_toArray,List.set_cons_zero,List.set_cons_succ,i64_w,i32_w]
      rfl
     refine pure_ (i := 29) (N := some 172) (v := ?_) (a' := ?_) #[false,false,true,false,false,false,false,false,false,false,false,true,true,false,false,true,true,true,false,false,false,false,false,false,false,true,true,false,false,true] rfl rfl (any_of HT_.out (by kernel_rfl)) (fun _ _ _ h => h) (Or.inl ⟨by rfl,?_⟩) ?_ ?_
     rotate_left
     ·intro w'
      go_simp
      with_reducible rfl
     rotate_left
     ·simp only [Act.put,List.setIfInBounds_toArray,List.set_cons_zero,List.set_cons_succ,i64_w,i32_w]
      rfl
     refine take_ (i := 0) (N := some 143) (v := ?_) (a' := ?_) #[true,false,true,false,false,false,false,false,false,false,false,true,true,false,false,true,true,true,false,false,false,false,false,false,false,true,true,false,false,true] rfl rfl (take_ofW HT_.out HW_.out (by kernel_rfl)) (fun _ _ _ h => h) (Or.inl ⟨by rfl,?_⟩) hHeld ?_ ?_
     rotate_left
     ·rintro w' ⟨s0,s1,s2⟩
      go_simp
      with_reducible rfl
     rotate_left
     ·simp only [Act.put,List.setIfInBounds_toArray,List.set_cons_zero,List.set_cons_succ,i64_w,i32_w]
      rfl
     refine pure_ (i := 1) (N := some 144) (v := ?_) (a' := ?_) #[true,true,true,false,false,false,false,false,false,false,false,true,true,false,false,true,true,true,false,false,false,false,false,false,false,true,true,false,false,true] rfl rfl (any_of HT_.out (by kernel_rfl)) (fun _ _ _ h => h) (Or.inl ⟨by rfl,?_⟩) ?_ ?_
     rotate_left
     ·intro w'
      go_simp
      with_reducible rfl
     rotate_left
     ·simp only [Act.put,List.setIfInBounds_toArray,List.set_cons_zero,List.set_cons_succ,i64_w,i32_w]
      rfl
     refine take_ (i := 3) (N := some 146) (v := ?_) (a' := ?_) #[true,true,true,true,false,false,false,false,false,false,false,true,true,false,false,true,true,true,false,false,false,false,false,false,false,true,true,false,false,true] rfl rfl (take_ofW HT_.out HW_.out (by kernel_rfl)) (fun _ _ _ h => h) (Or.inl ⟨by rfl,?_⟩) hHeld ?_ ?_
     rotate_left
     ·rintro w' ⟨s0,s1,s2⟩
      go_simp
      with_reducible rfl
     rotate_left
     ·simp only [Act.put,List.setIfInBounds_toArray,List.set_cons_zero,List.set_cons_succ,i64_w,i32_w]
      rfl
     refine pure_ (i := 4) (N := some 147) (v := ?_) (a' := ?_) #[true,true,true,true,true,false,false,false,false,false,false,true,true,false,false,true,true,true,false,false,false,false,false,false,false,true,true,false,false,true] rfl rfl (any_of HT_.out (by kernel_rfl)) (fun _ _ _ h => h) (Or.inl ⟨by rfl,?_⟩) ?_ ?_
     rotate_left
     ·intro w'
      go_simp
      with_reducible rfl
     rotate_left
     ·simp only [Act.put,List.setIfInBounds_toArray,List.set_cons_zero,List.set_cons_succ,i64_w,i32_w]
      rfl
     refine take_ (i := 5) (N := some 148) (v := ?_) (a' := ?_) #[true,true,true,true,true,true,false,false,false,false,false,true,true,false,false,true,true,true,false,false,false,false,false,false,false,true,true,false,false,true] rfl rfl (take_ofW HT_.out HW_.out (by kernel_rfl)) (fun _ _ _ h => h) (Or.inl ⟨by rfl,?_⟩) hHeld ?_ ?_
     rotate_left
     ·rintro w' ⟨s0,s1,s2⟩
      go_simp
      with_reducible rfl
     rotate_left
     ·simp only [Act.put,List.setIfInBounds_toArray,List.set_cons_zero,List.set_cons_succ,i64_w,i32_w]
      rfl
     refine pure_ (i := 6) (N := some 149) (v := ?_) (a' := ?_) #[true,true,true,true,true,true,true,false,false,false,false,true,true,false,false,true,true,true,false,false,false,false,false,false,false,true,true,false,false,true] rfl rfl (any_of HT_.out (by kernel_rfl)) (fun _ _ _ h => h) (Or.inl ⟨by rfl,?_⟩) ?_ ?_
     rotate_left
     ·intro w'
      go_simp
      with_reducible rfl
     rotate_left
     ·simp only [Act.put,List.setIfInBounds_toArray,List.set_cons_zero,List.set_cons_succ,i64_w,i32_w]
      rfl
     refine pure_ (i := 7) (N := some 150) (v := ?_) (a' := ?_) #[true,true,true,true,true,true,true,true,false,false,false,true,true,false,false,true,true,true,false,false,false,false,false,false,false,true,true,false,false,true] rfl rfl (any_of HT_.out (by kernel_rfl)) (fun _ _ _ h => h) (Or.inl ⟨by rfl,?_⟩) ?_ ?_
     rotate_left
     ·intro w'
      go_simp
      with_reducible rfl
     rotate_left
     ·simp only [Act.put,List.setIfInBounds_toArray,List.set_cons_zero,List.set_cons_succ,i64_w,i32_w]
      rfl
     refine take_ (i := 8) (N := some 151) (v := ?_) (a' := ?_) #[true,true,true,true,true,true,true,true,true,false,false,true,true,false,false,true,true,true,false,false,false,false,false,false,false,true,true,false,false,true] rfl rfl (take_ofW HT_.out HW_.out (by kernel_rfl)) (fun _ _ _ h => h) (Or.inl ⟨by rfl,?_⟩) hHeld ?_ ?_
     rotate_left
     ·rintro w' ⟨s0,s1,s2⟩
      go_simp
      with_reducible rfl
     rotate_left
     ·simp only [Act.put,List.setIfInBounds_toArray,List.set_cons_zero,List.set_cons_succ,i64_w,i32_w]
      rfl
     refine take_ (i := 13) (N := some 156) (v := ?_) (a' := ?_) #[true,true,true,true,true,true,true,true,true,false,false,true,true,true,false,true,true,true,false,false,false,false,false,false,false,true,true,false,false,true] rfl rfl (take_ofW HT_.out HW_.out (by kernel_rfl)) (fun _ _ _ h => h) (Or.inl ⟨by rfl,?_⟩) hHeld ?_ ?_
     rotate_left
     ·rintro w' ⟨s0,s1,s2⟩
      go_simp
      with_reducible rfl
     rotate_left
     ·simp only [Act.put,List.setIfInBounds_toArray,List.set_cons_zero,List.set_cons_succ,i64_w,i32_w]
      rfl
     refine pure_ (i := 14) (N := some 157) (v := ?_) (a' := ?_) #[true,true,true,true,true,true,true,true,true,false,false,true,true,true,true,true,true,true,false,false,false,false,false,false,false,true,true,false,false,true] rfl rfl (any_of HT_.out (by kernel_rfl)) (fun _ _ _ h => h) (Or.inl ⟨by rfl,?_⟩) ?_ ?_
     rotate_left
     ·intro w'
      go_simp
      with_reducible rfl
     rotate_left
     ·simp only [Act.put,List.setIfInBounds_toArray,List.set_cons_zero,List.set_cons_succ,i64_w,i32_w]
      rfl
     refine one_ (i := 9) (N := some 152) #[true,true,true,true,true,true,true,true,true,true,false,true,true,true,true,true,true,true,false,false,false,false,false,false,false,true,true,false,false,true] rfl rfl (one_of HT_.out (by kernel_rfl)) (by decide) (fun K hK => ?_)
     refine goes_ Try.func84 (by kernel_rfl) rfl #[.string a2,.int .i64 0,.int .i64 1000] (by rfl) rfl rfl (by (try simp only [List.map_toArray,List.map_cons,List.map_nil]);first | done | rfl) ?_
     with_reducible refine (qqw.calls k a2 0 1000 t _ HT.out).mono ?_
     rintro e w' ⟨rfl,⟨nd,rfl⟩⟩
     refine ⟨_,rfl,?_⟩
     have n0_ := qq.mk (HX.out.drewN nd)
     clear HX
     have HX := n0_
     clear n0_
     refine hK.out _ _ ⟨HX.out.cells.1,HX.out.cells.2.1,HX.out.cells.2.2.2.2⟩ (fun hHeld => ?_)
     clear hK K
     refine norm_ (a' := ?_) ?_ ?_
     rotate_left
     ·show Act.put _ (some 152) _ = _
      simp only [Act.put,List.setIfInBounds_toArray,List.set_cons_zero,List.set_cons_succ,i64_w,i32_w]
      rfl
     refine pure_ (i := 10) (N := some 153) (v := ?_) (a' := ?_) #[true,true,true,true,true,true,true,true,true,true,true,true,true,true,true,true,true,true,false,false,false,false,false,false,false,true,true,false,false,true] rfl rfl (any_of HT_.out (by kernel_rfl)) (fun _ _ _ h => h) (Or.inl ⟨by rfl,?_⟩) ?_ ?_
     rotate_left
     ·intro w'
      go_simp
      with_reducible rfl
     rotate_left
     ·simp only [Act.put,List.setIfInBounds_toArray,List.set_cons_zero,List.set_cons_succ,i64_w,i32_w]
      rfl
     refine pure_ (i := 18) (N := some 161) (v := ?_) (a' := ?_) #[true,true,true,true,true,true,true,true,true,true,true,true,true,true,true,true,true,true,true,false,false,false,false,false,false,true,true,false,false,true] rfl rfl (any_of HT_.out (by kernel_rfl)) (fun _ _ _ h => h) (Or.inl ⟨by rfl,?_⟩) ?_ ?_
     rotate_left
     ·intro w'
      go_simp
      with_reducible rfl
     rotate_left
     ·simp only [Act.put,List.setIfInBounds_toArray,List.set_cons_zero,List.set_cons_succ,i64_w,i32_w]
      rfl
     refine take_ (i := 19) (N := some 162) (v := ?_) (a' := ?_) #[true,true,true,true,true,true,true,true,true,true,true,true,true,true,true,true,true,true,true,true,false,false,false,false,false,true,true,false,false,true] rfl rfl (take_ofW HT_.out HW_.out (by kernel_rfl)) (fun _ _ _ h => h) (Or.inl ⟨by rfl,?_⟩) hHeld ?_ ?_
     rotate_left
     ·rintro w' ⟨s0,s1,s2⟩
      go_simp
      with_reducible rfl
     rotate_left
     ·simp only [Act.put,List.setIfInBounds_toArray,List.set_cons_zero,List.set_cons_succ,i64_w,i32_w]
      rfl
     refine pure_ (i := 21) (N := some 164) (v := ?_) (a' := ?_) #[true,true,true,true,true,true,true,true,true,true,true,true,true,true,true,true,true,true,true,true,false,true,false,false,false,true,true,false,false,true] rfl rfl (any_of HT_.out (by kernel_rfl)) (fun _ _ _ h => h) (Or.inl ⟨by rfl,?_⟩) ?_ ?_
     rotate_left
     ·intro w'
      go_simp
      with_reducible rfl
     rotate_left
     ·simp only [Act.put,List.setIfInBounds_toArray,List.set_cons_zero,List.set_cons_succ,i64_w,i32_w]
      rfl
     refine one_ (i := 20) (N := some 163) #[true,true,true,true,true,true,true,true,true,true,true,true,true,true,true,true,true,true,true,true,true,true,false,false,false,true,true,false,false,true] rfl rfl (one_of HT_.out (by kernel_rfl)) (by decide) (fun K hK => ?_)
     refine goes_ Try.func79 (by kernel_rfl) rfl #[.string a2] (by rfl) rfl rfl (by (try simp only [List.map_toArray,List.map_cons,List.map_nil]);first | done | rfl) ?_
     with_reducible refine (qqk.calls a2 _ _ HUP.out).mono ?_
     rintro e w220 ⟨rfl,hb⟩
     refine ⟨_,rfl,?_⟩
     have n0_ := qq.mk (HX.out.step hb)
     clear hb
     clear HX
     have HX := n0_
     clear n0_
     refine hK.out _ _ ⟨HX.out.cells.1,HX.out.cells.2.1,HX.out.cells.2.2.2.2⟩ (fun hHeld => ?_)
     clear hK K
     refine norm_ (a' := ?_) ?_ ?_
     rotate_left
     ·show Act.put _ (some 163) _ = _
      simp only [Act.put,List.setIfInBounds_toArray,List.set_cons_zero,List.set_cons_succ,i64_w,i32_w]
      rfl
     refine one_ (i := 22) (N := some 165) #[true,true,true,true,true,true,true,true,true,true,true,true,true,true,true,true,true,true,true,true,true,true,true,false,false,true,true,false,false,true] rfl rfl (one_of HT_.out (by kernel_rfl)) (by decide) (fun K hK => ?_)
     refine goes_ Try.func79 (by kernel_rfl) rfl #[.string a1] (by rfl) rfl rfl (by (try simp only [List.map_toArray,List.map_cons,List.map_nil]);first | done | rfl) ?_
     with_reducible refine (qqk.calls a1 _ _ HU1.out).mono ?_
     rintro e w222 ⟨rfl,hb⟩
     refine ⟨_,rfl,?_⟩
     have n0_ := qq.mk (HX.out.step hb)
     clear hb
     clear HX
     have HX := n0_
     clear n0_
     refine hK.out _ _ ⟨HX.out.cells.1,HX.out.cells.2.1,HX.out.cells.2.2.2.2⟩ (fun hHeld => ?_)
     clear hK K
     refine norm_ (a' := ?_) ?_ ?_
     rotate_left
     ·show Act.put _ (some 165) _ = _
      simp only [Act.put,List.setIfInBounds_toArray,List.set_cons_zero,List.set_cons_succ,i64_w,i32_w]
      rfl
     refine one_ (i := 23) (N := some 166) #[true,true,true,true,true,true,true,true,true,true,true,true,true,true,true,true,true,true,true,true,true,true,true,true,false,true,true,false,false,true] rfl rfl (one_of HT_.out (by kernel_rfl)) (by decide) (fun K hK => ?_)
     refine goes_ Try.func78 (by kernel_rfl) rfl #[.string (upperB a2),.string (upperB a1)] (by rfl) rfl rfl (by (try simp only [List.map_toArray,List.map_cons,List.map_nil]);first | done | rfl) ?_
     with_reducible refine (strings_Contains.calls (upperB a2) (upperB a1) _ _ (TabW_below HTAB.out HX.out.below) HCO.out).mono ?_
     rintro e w' ⟨rfl,⟨nd,rfl⟩⟩
     refine ⟨_,rfl,?_⟩
     have n0_ := qq.mk (HX.out.drewN nd)
     clear HX
     have HX := n0_
     clear n0_
     refine hK.out _ _ ⟨HX.out.cells.1,HX.out.cells.2.1,HX.out.cells.2.2.2.2⟩ (fun hHeld => ?_)
     clear hK K
     refine norm_ (a' := ?_) ?_ ?_
     rotate_left
     ·show Act.put _ (some 166) _ = _
      simp only [Act.put,List.setIfInBounds_toArray,List.set_cons_zero,List.set_cons_succ,i64_w,i32_w]
      rfl
     refine pure_ (i := 24) (N := some 167) (v := ?_) (a' := ?_) #[true,true,true,true,true,true,true,true,true,true,true,true,true,true,true,true,true,true,true,true,true,true,true,true,true,true,true,false,false,true] rfl rfl (any_of HT_.out (by kernel_rfl)) (fun _ _ _ h => h) (Or.inl ⟨by rfl,?_⟩) ?_ ?_
     rotate_left
     ·intro w'
      go_simp
      with_reducible rfl
     rotate_left
     ·simp only [Act.put,List.setIfInBounds_toArray,List.set_cons_zero,List.set_cons_succ,i64_w,i32_w]
      rfl
     refine one_ (i := 27) (N := some 170) #[true,true,true,true,true,true,true,true,true,true,true,true,true,true,true,true,true,true,true,true,true,true,true,true,true,true,true,true,false,true] rfl rfl (one_of HT_.out (by kernel_rfl)) (by decide) (fun K hK => ?_)
     refine Kd.R_lit_step Kd.bool _ 4 ?hg (N := 170) ?hd (xs := ([decide ((a2.size : Int) < a0_0),decide ((a2.size : Int) > 64),!t,decide ((kindsN a2 : Int) < a0_1),banF a2 a1,bn,used] : List Bool)) (inner := [.bool (decide ((a2.size : Int) < a0_0)),.bool (decide ((a2.size : Int) > 64)),.bool (!t),.bool (decide ((kindsN a2 : Int) < a0_1)),.bool (banF a2 a1),.bool (bn),.bool (used)]) (ok := fun _ => True) (okp := fun _ => True) ?hr ?hp (fun _ hk => hk) trivial (Below.refl _ _) (Nat.le_refl _) (by simp) ?_;(case hd => rfl);(case hg => rfl);(case hr => first | (go_simp;done) | (go_simp;rfl));(case hp => exact (Reps.one (show Kd.M Kd.bool _ _ _ (decide ((a2.size : Int) < a0_0)) [.bool (decide ((a2.size : Int) < a0_0))] from rfl) (Reps.one (show Kd.M Kd.bool _ _ _ (decide ((a2.size : Int) > 64)) [.bool (decide ((a2.size : Int) > 64))] from rfl) (Reps.one (show Kd.M Kd.bool _ _ _ (!t) [.bool (!t)] from rfl) (Reps.one (show Kd.M Kd.bool _ _ _ (decide ((kindsN a2 : Int) < a0_1)) [.bool (decide ((kindsN a2 : Int) < a0_1))] from rfl) (Reps.one (show Kd.M Kd.bool _ _ _ (banF a2 a1) [.bool (banF a2 a1)] from rfl) (Reps.one (show Kd.M Kd.bool _ _ _ bn [.bool bn] from rfl) (Reps.one (show Kd.M Kd.bool _ _ _ used [.bool used] from rfl) (Reps.none _ _)))))))))
     intro v170 w227 ho hb hg_ hnew_
     clear hg_ hnew_
     (first | rw [← Ny.out] at ho | (simp only [Int.reduceToNat] at ho;rw [← Ny.out] at ho))
     have HO := qq.mk (Kd.R_lower ho (zw HX.out.below))
     have n0_ := qq.mk (HX.out.step hb)
     clear HX hb ho
     have HX := n0_
     clear n0_
     obtain ⟨Ao,co,eo⟩ := Kd.R_slice HO.out
     subst eo
     refine hK.out _ _ ⟨HX.out.cells.1,HX.out.cells.2.1,HX.out.cells.2.2.2.2⟩ (fun hHeld => ?_)
     clear hK K
     refine norm_ (a' := ?_) ?_ ?_
     rotate_left
     ·show Act.put _ (some 170) _ = _
      simp only [Act.put,List.setIfInBounds_toArray,List.set_cons_zero,List.set_cons_succ,i64_w,i32_w]
      rfl
     refine pure_ (i := 28) (N := some 171) (v := ?_) (a' := ?_) #[true,true,true,true,true,true,true,true,true,true,true,true,true,true,true,true,true,true,true,true,true,true,true,true,true,true,true,true,true,true] rfl rfl (any_of HT_.out (by kernel_rfl)) (fun _ _ _ h => h) (Or.inl ⟨by rfl,?_⟩) ?_ ?_
     rotate_left
     ·intro w'
      go_simp
      with_reducible rfl
     rotate_left
     ·simp only [Act.put,List.setIfInBounds_toArray,List.set_cons_zero,List.set_cons_succ,i64_w,i32_w]
      rfl
     refine done_ (done_of HT_.out (by kernel_rfl)) ?_
     have HB0 : qq (Below w.heap.size w w227) := ⟨HX.out.below⟩
     clear HX Ny HRES
     try go_wp2
     go_loopw [19,172] (fun v19 v172 W => ∃ (acc : List Int) (i : Nat),v172 = .int .i64 (i : Int) ∧ qq (i ≤ y.length) ∧ qq (acc.length ≤ i) ∧ qq (acc ++ fl i (y.drop i) = r) ∧ qq (Kd.R (Kd.int .i64) 3 W w.heap.size (fun _ => True) v19 acc) ∧ qq (Kd.R Kd.bool 4 W w.heap.size (fun _ => True) (.slice Ao y.length co) y) ∧ qq (Below w.heap.size w W)) (fun _ v172 _ => y.length - (intOf v172).toNat)
     case atStart => exact ⟨[],0,rfl,⟨Nat.zero_le _⟩,⟨Nat.le_refl _⟩,⟨by rw [List.drop_zero,List.nil_append];exact HY.out⟩,⟨Kd.R_nil _ _ _ _ _⟩,HO,HB0⟩
     case round =>
     obtain ⟨acc,i,rfl,HI,HAL,HACC,HR,HOR,HB⟩ := hrel
     clear HO HB0
     by_cases hlt : i < y.length
     ·have HLT := qq.mk hlt
      have hl1 : decide ((i : Int) < (y.length : Int)) = true := decide_eq_true (by omega)
      have hl2 : decide (i < y.length) = true := decide_eq_true hlt
      have p1 : 0 ≤ (i : Int) := by omega
      have q1 : (i : Int) < (y.length : Int) := by omega
      obtain ⟨ad,e1,hx⟩ := Kd.at_bool (Kd.R_reads' HOR.out).2.2 (i : Int) p1 q1
      have hst := fl_step i y hlt
      have ex : rdOf false y (i : Int) = y[i] := by simp [rdOf,List.getD_eq_getElem?_getD,List.getElem?_eq_getElem hlt]
      rw [ex,Int.toNat_natCast] at hx
      cases e1
      replace p1 := eq_true p1
      replace q1 := eq_true q1
      have e3 : wrap64 ((i : Int) + 1) = ((i + 1 : Nat) : Int) := wrap_upF hlt (by rw [HYL.out];omega)
      have E4 : qq (wrap64 (1 + (i : Int)) = ((1 + i : Nat) : Int)) := ⟨by have := HYL.out;unfold wrap64;omega⟩
      generalize y[i] = b at hx hst
      have HST := qq.mk hst
      clear hst ex hlt
      cases b
      ·go_wp2
       try simp only [e3]
       go_roundw
       case rel => exact ⟨acc,i + 1,rfl,⟨HLT.out⟩,⟨by have := HAL.out;omega⟩,⟨by have h := HACC.out;rw [HST.out] at h;exact h⟩,HR,HOR,HB⟩
       case measure =>
        show y.length - (((i + 1 : Nat) : Int)).toNat < y.length - ((i : Int)).toNat
        rw [Int.toNat_natCast,Int.toNat_natCast]
        exact Nat.sub_lt_sub_left HLT.out (Nat.lt_succ_self i)
      ·go_wp2_with (first | ((with_reducible refine gate_builtin (b := .append) (xs := #[.tmp 178,.tmp 181]) rfl ?_);(try (refine gate_guard (by rfl) ?_;dsimp only));at_builtin;refine Kd.R_append (Kd.int .i64) (w0 := w) w.heap.size rfl (.tmp 178) (.tmp 181) 51 3 (.int .i64 0) 8 rfl Try.underlying51 info3 rfl (by decide) (by omega) u19 acc (wrap64 (1 + (i : Int))) [.int .i64 (wrap64 (1 + (i : Int)))] (fun _ => True) (fun _ => False) rfl rfl ?aP (fun _ hk => hk.elim) ?aF ?aO ?aB ?aS ?aL ?_;(case aP => exact rfl);(case aB => exact (by repeat (first | (with_reducible first | exact HB.out | apply qj | apply qz | apply qk) | exact HB.out)));(case aF => exact (fun _ _ => trivial));(case aO => exact (by (with_reducible repeat (first | apply Kd.jq | apply Kd.zx | apply Kd.jz));exact HR.out));(case aS => exact (zw (by repeat (first | (with_reducible first | exact HB.out | apply qj | apply qz | apply qk) | exact HB.out))));(case aL => have h1 := HAL.out;have h2 := HYL.out;have h3 := HLT.out;omega);intro v182 w84 ho hb hg hat;rw [E4.out] at ho;have n0_ := qq.mk (Kd.R_over' (by (with_reducible repeat (first | apply Kd.jq | apply Kd.zx | apply Kd.jz));exact HOR.out) (Kd.R_typed (by (with_reducible repeat (first | apply Kd.jq | apply Kd.zx | apply Kd.jz));exact HR.out)) (by decide) hg);have n1_ := qq.mk hb;have n2_ := qq.mk ho;clear HOR HB HR;have HOR := n0_;have HB := n1_;have HR := n2_;clear n0_ n1_ n2_;clear ho hb hg hat))
       try simp only [e3]
       go_roundw
       case rel => exact ⟨acc ++ [((1 + i : Nat) : Int)],i + 1,rfl,⟨HLT.out⟩,⟨by have := HAL.out;rw [List.length_append,List.length_singleton];omega⟩,⟨by have h := HACC.out;rw [HST.out,if_pos rfl,← List.append_assoc] at h;exact h⟩,HR,HOR,HB⟩
       case measure =>
        show y.length - (((i + 1 : Nat) : Int)).toNat < y.length - ((i : Int)).toNat
        rw [Int.toNat_natCast,Int.toNat_natCast]
        exact Nat.sub_lt_sub_left HLT.out (Nat.lt_succ_self i)
     ·obtain rfl : i = y.length := by have := HI.out;omega
      have hl1 : decide ((y.length : Int) < (y.length : Int)) = false := decide_eq_false (by omega)
      have hl2 : decide (y.length < y.length) = false := decide_eq_false (by omega)
      have hres : acc = r := by have h := HACC.out;rw [List.drop_length] at h;unfold fl at h;rw [List.append_nil] at h;exact h
      clear HACC
      subst hres
      go_wp2
      go_ret
      exact ⟨_,rfl,HR.out,HB.out⟩
    ·skip
     have dq : decide (3 ≤ (a1.size : Int)) = false := decide_eq_false (by omega)
     have dr : decide (3 ≤ a1.size) = false := decide_eq_false hu
     obtain ⟨y,ey⟩ : ∃ y_ : List Bool,y_ = [decide ((a2.size : Int) < a0_0),decide ((a2.size : Int) > 64),!t,decide ((kindsN a2 : Int) < a0_1),false,bn,used] := ⟨_,rfl⟩
     have HYL : qq (y.length = 7) := ⟨by rw [ey];rfl⟩
     have HY : qq (fl 0 y = r) := ⟨by
      rw [← HRES.out,ey]
      unfold pfList
      rw [dr,HBN.out,show decide ((a2.size : Int) > 64) = decide (64 < a2.size) from decide_eq_decide.mpr (by omega)]
      simp only [Bool.true_and,Bool.false_and]⟩
     have Ny := qq.mk ey
     clear ey hu
     (first | rw [dr] | (rw [dq]) | skip)
     have n0_ := qq.mk (HX.out.step (qk (Below.refl _ _)))
     clear HX
     have HX := n0_
     clear n0_
     refine start_ (n := 30) (S := fun w' => w'.cell? ⟨B,0,none⟩ = some (.int .i64 a0_0) ∧ w'.cell? ⟨B,1,none⟩ = some (.int .i64 a0_1) ∧ w'.cell? ⟨B + 1,0,none⟩ = some (.string a2)) (ds := []) #[false,false,false,false,false,false,false,false,false,false,false,false,false,false,false,false,false,false,false,false,false,false,false,false,false,false,false,false,false,false] (by kernel_rfl) rfl rfl ⟨HX.out.cells.1,HX.out.cells.2.1,HX.out.cells.2.2.2.2⟩ (fun hHeld => ?_);refine with_tabW qqq.tab32 qqq.bits32 (fun HT_ HW_ => ?_)
     generalize w1.drew = wd at HX hHeld ⊢
     refine pure_ (i := 2) (N := some 145) (v := ?_) (a' := ?_) #[false,false,true,false,false,false,false,false,false,false,false,false,false,false,false,false,false,false,false,false,false,false,false,false,false,false,false,false,false,false] rfl rfl (any_of HT_.out (by kernel_rfl)) (fun _ _ _ h => h) (Or.inl ⟨by rfl,?_⟩) ?_ ?_
     rotate_left
     ·intro w'
      go_simp
      with_reducible rfl
     rotate_left
     ·simp only [Act.put,List.setIfInBounds_toArray,List.set_cons_zero,List.set_cons_succ,i64_w,i32_w]
      rfl
     refine pure_ (i := 11) (N := some 154) (v := ?_) (a' := ?_) #[false,false,true,false,false,false,false,false,false,false,false,true,false,false,false,false,false,false,false,false,false,false,false,false,false,false,false,false,false,false] rfl rfl (any_of HT_.out (by kernel_rfl)) (fun _ _ _ h => h) (Or.inl ⟨by rfl,?_⟩) ?_ ?_
     rotate_left
     ·intro w'
      go_simp
      with_reducible rfl
     rotate_left
     ·simp only [Act.put,List.setIfInBounds_toArray,List.set_cons_zero,List.set_cons_succ,i64_w,i32_w]
      rfl
     refine pure_ (i := 12) (N := some 155) (v := ?_) (a' := ?_) #[false,false,true,false,false,false,false,false,false,false,false,true,true,false,false,false,false,false,false,false,false,false,false,false,false,false,false,false,false,false] rfl rfl (any_of HT_.out (by kernel_rfl)) (fun _ _ _ h => h) (Or.inl ⟨by rfl,?_⟩) ?_ ?_
     rotate_left
     ·intro w'
      go_simp
      with_reducible rfl
     rotate_left
     ·simp only [Act.put,List.setIfInBounds_toArray,List.set_cons_zero,List.set_cons_succ,i64_w,i32_w]
      rfl
     refine pure_ (i := 15) (N := some 158) (v := ?_) (a' := ?_) #[false,false,true,false,false,false,false,false,false,false,false,true,true,false,false,true,false,false,false,false,false,false,false,false,false,false,false,false,false,false] rfl rfl (any_of HT_.out (by kernel_rfl)) (fun _ _ _ h => h) (Or.inl ⟨by rfl,?_⟩) ?_ ?_
     rotate_left
     ·intro w'
      go_simp
      with_reducible rfl
     rotate_left
     ·simp only [Act.put,List.setIfInBounds_toArray,List.set_cons_zero,List.set_cons_succ,i64_w,i32_w]
      rfl
     refine pure_ (i := 16) (N := some 159) (v := ?_) (a' := ?_) #[false,false,true,false,false,false,false,false,false,false,false,true,true,false,false,true,true,false,false,false,false,false,false,false,false,false,false,false,false,false] rfl rfl (any_of HT_.out (by kernel_rfl)) (fun _ _ _ h => h) (Or.inl ⟨by rfl,?_⟩) ?_ ?_
     rotate_left
     ·intro w'
      go_simp
      with_reducible rfl
     rotate_left
     ·simp only [Act.put,List.setIfInBounds_toArray,List.set_cons_zero,List.set_cons_succ,i64_w,i32_w]
      rfl
     refine pure_ (i := 17) (N := some 160) (v := ?_) (a' := ?_) #[false,false,true,false,false,false,false,false,false,false,false,true,true,false,false,true,true,true,false,false,false,false,false,false,false,false,false,false,false,false] rfl rfl (any_of HT_.out (by kernel_rfl)) (fun _ _ _ h => h) (Or.inl ⟨by rfl,?_⟩) ?_ ?_
     rotate_left
     ·intro w'
      go_simp
      with_reducible rfl
     rotate_left
     ·simp only [Act.put,List.setIfInBounds_toArray,List.set_cons_zero,List.set_cons_succ,i64_w,i32_w]
      rfl
     refine pure_ (i := 25) (N := some 168) (v := ?_) (a' := ?_) #[false,false,true,false,false,false,false,false,false,false,false,true,true,false,false,true,true,true,false,false,false,false,false,false,false,true,false,false,false,false] rfl rfl (any_of HT_.out (by kernel_rfl)) (fun _ _ _ h => h) (Or.inl ⟨by rfl,?_⟩) ?_ ?_
     rotate_left
     ·intro w'
      go_simp
      with_reducible rfl
     rotate_left
     ·simp only [Act.put,List.setIfInBounds_toArray,List.set_cons_zero,List.set_cons_succ,i64_w,i32_w]
      rfl
     refine pure_ (i := 26) (N := some 169) (v := ?_) (a' := ?_) #[false,false,true,false,false,false,false,false,false,false,false,true,true,false,false,true,true,true,false,false,false,false,false,false,false,true,true,false,false,false] rfl rfl (any_of HT_.out (by kernel_rfl)) (fun _ _ _ h => h) (Or.inl ⟨by rfl,?_⟩) ?_ ?_
     rotate_left
     ·intro w'
      go_simp
      with_reducible rfl
     rotate_left
     ·simp only [Act.put,List.setIfInBounds_toArray,List.set_cons_zero,List.set_cons_succ,i64_w,i32_w]
      rfl
     refine pure_ (i := 29) (N := some 172) (v := ?_) (a' := ?_) #[false,false,true,false,false,false,false,false,false,false,false,true,true,false,false,true,true,true,false,false,false,false,false,false,false,true,true,false,false,true] rfl rfl (any_of HT_.out (by kernel_rfl)) (fun _ _ _ h => h) (Or.inl ⟨by rfl,?_⟩) ?_ ?_
     rotate_left
     ·intro w'
      go_simp
      with_reducible rfl
     rotate_left
     ·simp only [Act.put,List.setIfInBounds_toArray,List.set_cons_zero,List.set_cons_succ,i64_w,i32_w]
      rfl
     refine take_ (i := 0) (N := some 143) (v := ?_) (a' := ?_) #[true,false,true,false,false,false,false,false,false,false,false,true,true,false,false,true,true,true,false,false,false,false,false,false,false,true,true,false,false,true] rfl rfl (take_ofW HT_.out HW_.out (by kernel_rfl)) (fun _ _ _ h => h) (Or.inl ⟨by rfl,?_⟩) hHeld ?_ ?_
     rotate_left
     ·rintro w' ⟨s0,s1,s2⟩
      go_simp
      with_reducible rfl
     rotate_left
     ·simp only [Act.put,List.setIfInBounds_toArray,List.set_cons_zero,List.set_cons_succ,i64_w,i32_w]
      rfl
     refine pure_ (i := 1) (N := some 144) (v := ?_) (a' := ?_) #[true,true,true,false,false,false,false,false,false,false,false,true,true,false,false,true,true,true,false,false,false,false,false,false,false,true,true,false,false,true] rfl rfl (any_of HT_.out (by kernel_rfl)) (fun _ _ _ h => h) (Or.inl ⟨by rfl,?_⟩) ?_ ?_
     rotate_left
     ·intro w'
      go_simp
      with_reducible rfl
     rotate_left
     ·simp only [Act.put,List.setIfInBounds_toArray,List.set_cons_zero,List.set_cons_succ,i64_w,i32_w]
      rfl
     refine take_ (i := 3) (N := some 146) (v := ?_) (a' := ?_) #[true,true,true,true,false,false,false,false,false,false,false,true,true,false,false,true,true,true,false,false,false,false,false,false,false,true,true,false,false,true] rfl rfl (take_ofW HT_.out HW_.out (by kernel_rfl)) (fun _ _ _ h => h) (Or.inl ⟨by rfl,?_⟩) hHeld ?_ ?_
     rotate_left
     ·rintro w' ⟨s0,s1,s2⟩
      go_simp
      with_reducible rfl
     rotate_left
     ·simp only [Act.put,List.setIfInBounds_toArray,List.set_cons_zero,List.set_cons_succ,i64_w,i32_w]
      rfl
     refine pure_ (i := 4) (N := some 147) (v := ?_) (a' := ?_) #[true,true,true,true,true,false,false,false,false,false,false,true,true,false,false,true,true,true,false,false,false,false,false,false,false,true,true,false,false,true] rfl rfl (any_of HT_.out (by kernel_rfl)) (fun _ _ _ h => h) (Or.inl ⟨by rfl,?_⟩) ?_ ?_
     rotate_left
     ·intro w'
      go_simp
      with_reducible rfl
     rotate_left
     ·simp only [Act.put,List.setIfInBounds_toArray,List.set_cons_zero,List.set_cons_succ,i64_w,i32_w]
      rfl
     refine take_ (i := 5) (N := some 148) (v := ?_) (a' := ?_) #[true,true,true,true,true,true,false,false,false,false,false,true,true,false,false,true,true,true,false,false,false,false,false,false,false,true,true,false,false,true] rfl rfl (take_ofW HT_.out HW_.out (by kernel_rfl)) (fun _ _ _ h => h) (Or.inl ⟨by rfl,?_⟩) hHeld ?_ ?_
     rotate_left
     ·rintro w' ⟨s0,s1,s2⟩
      go_simp
      with_reducible rfl
     rotate_left
     ·simp only [Act.put,List.setIfInBounds_toArray,List.set_cons_zero,List.set_cons_succ,i64_w,i32_w]
      rfl
     refine pure_ (i := 6) (N := some 149) (v := ?_) (a' := ?_) #[true,true,true,true,true,true,true,false,false,false,false,true,true,false,false,true,true,true,false,false,false,false,false,false,false,true,true,false,false,true] rfl rfl (any_of HT_.out (by kernel_rfl)) (fun _ _ _ h => h) (Or.inl ⟨by rfl,?_⟩) ?_ ?_
     rotate_left
     ·intro w'
      go_simp
      with_reducible rfl
     rotate_left
     ·simp only [Act.put,List.setIfInBounds_toArray,List.set_cons_zero,List.set_cons_succ,i64_w,i32_w]
      rfl
     refine pure_ (i := 7) (N := some 150) (v := ?_) (a' := ?_) #[true,true,true,true,true,true,true,true,false,false,false,true,true,false,false,true,true,true,false,false,false,false,false,false,false,true,true,false,false,true] rfl rfl (any_of HT_.out (by kernel_rfl)) (fun _ _ _ h => h) (Or.inl ⟨by rfl,?_⟩) ?_ ?_
     rotate_left
     ·intro w'
      go_simp
      with_reducible rfl
     rotate_left
     ·simp only [Act.put,List.setIfInBounds_toArray,List.set_cons_zero,List.set_cons_succ,i64_w,i32_w]
      rfl
     refine take_ (i := 8) (N := some 151) (v := ?_) (a' := ?_) #[true,true,true,true,true,true,true,true,true,false,false,true,true,false,false,true,true,true,false,false,false,false,false,false,false,true,true,false,false,true] rfl rfl (take_ofW HT_.out HW_.out (by kernel_rfl)) (fun _ _ _ h => h) (Or.inl ⟨by rfl,?_⟩) hHeld ?_ ?_
     rotate_left
     ·rintro w' ⟨s0,s1,s2⟩
      go_simp
      with_reducible rfl
     rotate_left
     ·simp only [Act.put,List.setIfInBounds_toArray,List.set_cons_zero,List.set_cons_succ,i64_w,i32_w]
      rfl
     refine take_ (i := 13) (N := some 156) (v := ?_) (a' := ?_) #[true,true,true,true,true,true,true,true,true,false,false,true,true,true,false,true,true,true,false,false,false,false,false,false,false,true,true,false,false,true] rfl rfl (take_ofW HT_.out HW_.out (by kernel_rfl)) (fun _ _ _ h => h) (Or.inl ⟨by rfl,?_⟩) hHeld ?_ ?_
     rotate_left
     ·rintro w' ⟨s0,s1,s2⟩
      go_simp
      with_reducible rfl
     rotate_left
     ·simp only [Act.put,List.setIfInBounds_toArray,List.set_cons_zero,List.set_cons_succ,i64_w,i32_w]
      rfl
     refine pure_ (i := 14) (N := some 157) (v := ?_) (a' := ?_) #[true,true,true,true,true,true,true,true,true,false,false,true,true,true,true,true,true,true,false,false,false,false,false,false,false,true,true,false,false,true] rfl rfl (any_of HT_.out (by kernel_rfl)) (fun _ _ _ h => h) (Or.inl ⟨by rfl,?_⟩) ?_ ?_
     rotate_left
     ·intro w'
      go_simp
      with_reducible rfl
     rotate_left
     ·simp only [Act.put,List.setIfInBounds_toArray,List.set_cons_zero,List.set_cons_succ,i64_w,i32_w]
      rfl
     refine one_ (i := 9) (N := some 152) #[true,true,true,true,true,true,true,true,true,true,false,true,true,true,true,true,true,true,false,false,false,false,false,false,false,true,true,false,false,true] rfl rfl (one_of HT_.out (by kernel_rfl)) (by decide) (fun K hK => ?_)
     refine goes_ Try.func84 (by kernel_rfl) rfl #[.string a2,.int .i64 0,.int .i64 1000] (by rfl) rfl rfl (by (try simp only [List.map_toArray,List.map_cons,List.map_nil]);first | done | rfl) ?_
     with_reducible refine (qqw.calls k a2 0 1000 t _ HT.out).mono ?_
     rintro e w' ⟨rfl,⟨nd,rfl⟩⟩
     refine ⟨_,rfl,?_⟩
     have n0_ := qq.mk (HX.out.drewN nd)
     clear HX
     have HX := n0_
     clear n0_
     refine hK.out _ _ ⟨HX.out.cells.1,HX.out.cells.2.1,HX.out.cells.2.2.2.2⟩ (fun hHeld => ?_)
     clear hK K
     refine norm_ (a' := ?_) ?_ ?_
     rotate_left
     ·show Act.put _ (some 152) _ = _
      simp only [Act.put,List.setIfInBounds_toArray,List.set_cons_zero,List.set_cons_succ,i64_w,i32_w]
      rfl
     refine pure_ (i := 10) (N := some 153) (v := ?_) (a' := ?_) #[true,true,true,true,true,true,true,true,true,true,true,true,true,true,true,true,true,true,false,false,false,false,false,false,false,true,true,false,false,true] rfl rfl (any_of HT_.out (by kernel_rfl)) (fun _ _ _ h => h) (Or.inl ⟨by rfl,?_⟩) ?_ ?_
     rotate_left
     ·intro w'
      go_simp
      with_reducible rfl
     rotate_left
     ·simp only [Act.put,List.setIfInBounds_toArray,List.set_cons_zero,List.set_cons_succ,i64_w,i32_w]
      rfl
     refine pure_ (i := 18) (N := some 161) (v := ?_) (a' := ?_) #[true,true,true,true,true,true,true,true,true,true,true,true,true,true,true,true,true,true,true,false,false,false,false,false,false,true,true,false,false,true] rfl rfl (any_of HT_.out (by kernel_rfl)) (fun _ _ _ h => h) (Or.inl ⟨by rfl,?_⟩) ?_ ?_
     rotate_left
     ·intro w'
      go_simp
      with_reducible rfl
     rotate_left
     ·simp only [Act.put,List.setIfInBounds_toArray,List.set_cons_zero,List.set_cons_succ,i64_w,i32_w]
      rfl
     refine pure_ (i := 19) (N := some 162) (v := undef) (a' := ?_) #[true,true,true,true,true,true,true,true,true,true,true,true,true,true,true,true,true,true,true,true,false,false,false,false,false,true,true,false,false,true] rfl rfl (any_of HT_.out (by kernel_rfl)) (fun _ _ _ h => h) (Or.inr ⟨by rfl,rfl⟩) ?_ ?_
     rotate_left
     ·simp only [Act.put,List.setIfInBounds_toArray,List.set_cons_zero,List.set_cons_succ,i64_w,i32_w]
      rfl
     refine pure_ (i := 20) (N := some 163) (v := undef) (a' := ?_) #[true,true,true,true,true,true,true,true,true,true,true,true,true,true,true,true,true,true,true,true,true,false,false,false,false,true,true,false,false,true] rfl rfl (any_of HT_.out (by kernel_rfl)) (fun _ _ _ h => h) (Or.inr ⟨by rfl,rfl⟩) ?_ ?_
     rotate_left
     ·simp only [Act.put,List.setIfInBounds_toArray,List.set_cons_zero,List.set_cons_succ,i64_w,i32_w]
      rfl
     refine pure_ (i := 21) (N := some 164) (v := undef) (a' := ?_) #[true,true,true,true,true,true,true,true,true,true,true,true,true,true,true,true,true,true,true,true,true,true,false,false,false,true,true,false,false,true] rfl rfl (any_of HT_.out (by kernel_rfl)) (fun _ _ _ h => h) (Or.inr ⟨by rfl,rfl⟩) ?_ ?_
     rotate_left
     ·simp only [Act.put,List.setIfInBounds_toArray,List.set_cons_zero,List.set_cons_succ,i64_w,i32_w]
      rfl
     refine pure_ (i := 22) (N := some 165) (v := undef) (a' := ?_) #[true,true,true,true,true,true,true,true,true,true,true,true,true,true,true,true,true,true,true,true,true,true,true,false,false,true,true,false,false,true] rfl rfl (any_of HT_.out (by kernel_rfl)) (fun _ _ _ h => h) (Or.inr ⟨by rfl,rfl⟩) ?_ ?_
     rotate_left
     ·simp only [Act.put,List.setIfInBounds_toArray,List.set_cons_zero,List.set_cons_succ,i64_w,i32_w]
      rfl
     refine pure_ (i := 23) (N := some 166) (v := undef) (a' := ?_) #[true,true,true,true,true,true,true,true,true,true,true,true,true,true,true,true,true,true,true,true,true,true,true,true,false,true,true,false,false,true] rfl rfl (any_of HT_.out (by kernel_rfl)) (fun _ _ _ h => h) (Or.inr ⟨by rfl,rfl⟩) ?_ ?_
     rotate_left
     ·simp only [Act.put,List.setIfInBounds_toArray,List.set_cons_zero,List.set_cons_succ,i64_w,i32_w]
      rfl
     refine pure_ (i := 24) (N := some 167) (v := ?_) (a' := ?_) #[true,true,true,true,true,true,true,true,true,true,true,true,true,true,true,true,true,true,true,true,true,true,true,true,true,true,true,false,false,true] rfl rfl (any_of HT_.out (by kernel_rfl)) (fun _ _ _ h => h) (Or.inl ⟨by rfl,?_⟩) ?_ ?_
     rotate_left
     ·intro w'
      go_simp
      with_reducible rfl
     rotate_left
     ·simp only [Act.put,List.setIfInBounds_toArray,List.set_cons_zero,List.set_cons_succ,i64_w,i32_w]
      rfl
     refine one_ (i := 27) (N := some 170) #[true,true,true,true,true,true,true,true,true,true,true,true,true,true,true,true,true,true,true,true,true,true,true,true,true,true,true,true,false,true] rfl rfl (one_of HT_.out (by kernel_rfl)) (by decide) (fun K hK => ?_)
     refine Kd.R_lit_step Kd.bool _ 4 ?hg (N := 170) ?hd (xs := ([decide ((a2.size : Int) < a0_0),decide ((a2.size : Int) > 64),!t,decide ((kindsN a2 : Int) < a0_1),false,bn,used] : List Bool)) (inner := [.bool (decide ((a2.size : Int) < a0_0)),.bool (decide ((a2.size : Int) > 64)),.bool (!t),.bool (decide ((kindsN a2 : Int) < a0_1)),.bool (false),.bool (bn),.bool (used)]) (ok := fun _ => True) (okp := fun _ => True) ?hr ?hp (fun _ hk => hk) trivial (Below.refl _ _) (Nat.le_refl _) (by simp) ?_;(case hd => rfl);(case hg => rfl);(case hr => first | (go_simp;done) | (go_simp;rfl));(case hp => exact (Reps.one (show Kd.M Kd.bool _ _ _ (decide ((a2.size : Int) < a0_0)) [.bool (decide ((a2.size : Int) < a0_0))] from rfl) (Reps.one (show Kd.M Kd.bool _ _ _ (decide ((a2.size : Int) > 64)) [.bool (decide ((a2.size : Int) > 64))] from rfl) (Reps.one (show Kd.M Kd.bool _ _ _ (!t) [.bool (!t)] from rfl) (Reps.one (show Kd.M Kd.bool _ _ _ (decide ((kindsN a2 : Int) < a0_1)) [.bool (decide ((kindsN a2 : Int) < a0_1))] from rfl) (Reps.one (show Kd.M Kd.bool _ _ _ false [.bool false] from rfl) (Reps.one (show Kd.M Kd.bool _ _ _ bn [.bool bn] from rfl) (Reps.one (show Kd.M Kd.bool _ _ _ used [.bool used] from rfl) (Reps.none _ _)))))))))
     intro v170 w227 ho hb hg_ hnew_
     clear hg_ hnew_
     (first | rw [← Ny.out] at ho | (simp only [Int.reduceToNat] at ho;rw [← Ny.out] at ho))
     have HO := qq.mk (Kd.R_lower ho (zw HX.out.below))
     have n0_ := qq.mk (HX.out.step hb)
     clear HX hb ho
     have HX := n0_
     clear n0_
     obtain ⟨Ao,co,eo⟩ := Kd.R_slice HO.out
     subst eo
     refine hK.out _ _ ⟨HX.out.cells.1,HX.out.cells.2.1,HX.out.cells.2.2.2.2⟩ (fun hHeld => ?_)
     clear hK K
     refine norm_ (a' := ?_) ?_ ?_
     rotate_left
     ·show Act.put _ (some 170) _ = _
      simp only [Act.put,List.setIfInBounds_toArray,List.set_cons_zero,List.set_cons_succ,i64_w,i32_w]
      rfl
     refine pure_ (i := 28) (N := some 171) (v := ?_) (a' := ?_) #[true,true,true,true,true,true,true,true,true,true,true,true,true,true,true,true,true,true,true,true,true,true,true,true,true,true,true,true,true,true] rfl rfl (any_of HT_.out (by kernel_rfl)) (fun _ _ _ h => h) (Or.inl ⟨by rfl,?_⟩) ?_ ?_
     rotate_left
     ·intro w'
      go_simp
      with_reducible rfl
     rotate_left
     ·simp only [Act.put,List.setIfInBounds_toArray,List.set_cons_zero,List.set_cons_succ,i64_w,i32_w]
      rfl
     refine done_ (done_of HT_.out (by kernel_rfl)) ?_
     have HB0 : qq (Below w.heap.size w w227) := ⟨HX.out.below⟩
     clear HX Ny HRES
     try go_wp2
     go_loopw [19,172] (fun v19 v172 W => ∃ (acc : List Int) (i : Nat),v172 = .int .i64 (i : Int) ∧ qq (i ≤ y.length) ∧ qq (acc.length ≤ i) ∧ qq (acc ++ fl i (y.drop i) = r) ∧ qq (Kd.R (Kd.int .i64) 3 W w.heap.size (fun _ => True) v19 acc) ∧ qq (Kd.R Kd.bool 4 W w.heap.size (fun _ => True) (.slice Ao y.length co) y) ∧ qq (Below w.heap.size w W)) (fun _ v172 _ => y.length - (intOf v172).toNat)
     case atStart => exact ⟨[],0,rfl,⟨Nat.zero_le _⟩,⟨Nat.le_refl _⟩,⟨by rw [List.drop_zero,List.nil_append];exact HY.out⟩,⟨Kd.R_nil _ _ _ _ _⟩,HO,HB0⟩
     case round =>
     obtain ⟨acc,i,rfl,HI,HAL,HACC,HR,HOR,HB⟩ := hrel
     clear HO HB0
     by_cases hlt : i < y.length
     ·have HLT := qq.mk hlt
      have hl1 : decide ((i : Int) < (y.length : Int)) = true := decide_eq_true (by omega)
      have hl2 : decide (i < y.length) = true := decide_eq_true hlt
      have p1 : 0 ≤ (i : Int) := by omega
      have q1 : (i : Int) < (y.length : Int) := by omega
      obtain ⟨ad,e1,hx⟩ := Kd.at_bool (Kd.R_reads' HOR.out).2.2 (i : Int) p1 q1
      have hst := fl_step i y hlt
      have ex : rdOf false y (i : Int) = y[i] := by simp [rdOf,List.getD_eq_getElem?_getD,List.getElem?_eq_getElem hlt]
      rw [ex,Int.toNat_natCast] at hx
      cases e1
      replace p1 := eq_true p1
      replace q1 := eq_true q1
      have e3 : wrap64 ((i : Int) + 1) = ((i + 1 : Nat) : Int) := wrap_upF hlt (by rw [HYL.out];omega)
      have E4 : qq (wrap64 (1 + (i : Int)) = ((1 + i : Nat) : Int)) := ⟨by have := HYL.out;unfold wrap64;omega⟩
      generalize y[i] = b at hx hst
      have HST := qq.mk hst
      clear hst ex hlt
      cases b
      ·go_wp2
       try simp only [e3]
       go_roundw
       case rel => exact ⟨acc,i + 1,rfl,⟨HLT.out⟩,⟨by have := HAL.out;omega⟩,⟨by have h := HACC.out;rw [HST.out] at h;exact h⟩,HR,HOR,HB⟩
       case measure =>
        show y.length - (((i + 1 : Nat) : Int)).toNat < y.length - ((i : Int)).toNat
        rw [Int.toNat_natCast,Int.toNat_natCast]
        exact Nat.sub_lt_sub_left HLT.out (Nat.lt_succ_self i)
      ·go_wp2_with (first | ((with_reducible refine gate_builtin (b := .append) (xs := #[.tmp 178,.tmp 181]) rfl ?_);(try (refine gate_guard (by rfl) ?_;dsimp only));at_builtin;refine Kd.R_append (Kd.int .i64) (w0 := w) w.heap.size rfl (.tmp 178) (.tmp 181) 51 3 (.int .i64 0) 8 rfl Try.underlying51 info3 rfl (by decide) (by omega) u19 acc (wrap64 (1 + (i : Int))) [.int .i64 (wrap64 (1 + (i : Int)))] (fun _ => True) (fun _ => False) rfl rfl ?aP (fun _ hk => hk.elim) ?aF ?aO ?aB ?aS ?aL ?_;(case aP => exact rfl);(case aB => exact (by repeat (first | (with_reducible first | exact HB.out | apply qj | apply qz | apply qk) | exact HB.out)));(case aF => exact (fun _ _ => trivial));(case aO => exact (by (with_reducible repeat (first | apply Kd.jq | apply Kd.zx | apply Kd.jz));exact HR.out));(case aS => exact (zw (by repeat (first | (with_reducible first | exact HB.out | apply qj | apply qz | apply qk) | exact HB.out))));(case aL => have h1 := HAL.out;have h2 := HYL.out;have h3 := HLT.out;omega);intro v182 w84 ho hb hg hat;rw [E4.out] at ho;have n0_ := qq.mk (Kd.R_over' (by (with_reducible repeat (first | apply Kd.jq | apply Kd.zx | apply Kd.jz));exact HOR.out) (Kd.R_typed (by (with_reducible repeat (first | apply Kd.jq | apply Kd.zx | apply Kd.jz));exact HR.out)) (by decide) hg);have n1_ := qq.mk hb;have n2_ := qq.mk ho;clear HOR HB HR;have HOR := n0_;have HB := n1_;have HR := n2_;clear n0_ n1_ n2_;clear ho hb hg hat))
       try simp only [e3]
       go_roundw
       case rel => exact ⟨acc ++ [((1 + i : Nat) : Int)],i + 1,rfl,⟨HLT.out⟩,⟨by have := HAL.out;rw [List.length_append,List.length_singleton];omega⟩,⟨by have h := HACC.out;rw [HST.out,if_pos rfl,← List.append_assoc] at h;exact h⟩,HR,HOR,HB⟩
       case measure =>
        show y.length - (((i + 1 : Nat) : Int)).toNat < y.length - ((i : Int)).toNat
        rw [Int.toNat_natCast,Int.toNat_natCast]
        exact Nat.sub_lt_sub_left HLT.out (Nat.lt_succ_self i)
     ·obtain rfl : i = y.length := by have := HI.out;omega
      have hl1 : decide ((y.length : Int) < (y.length : Int)) = false := decide_eq_false (by omega)
      have hl2 : decide (y.length < y.length) = false := decide_eq_false (by omega)
      have hres : acc = r := by have h := HACC.out;rw [List.drop_length] at h;unfold fl at h;rw [List.append_nil] at h;exact h
      clear HACC
      subst hres
      go_wp2
      go_ret
      exact ⟨_,rfl,HR.out,HB.out⟩
end Go.Proofs.Ytgolcojhnklfdaa.Pr
namespace Go.Proofs.Ytgolcojhnklfdaa.Pr
open Go.RowKit Go.Proofs.YtgolcojhnklfdaaW.PrintWords Go.Proofs.YtgolcojhnklfdaaW.PrintLast Go.Proofs.YtgolcojhnklfdaaW.PrintMore
attribute [local go_sem] max2_int min2_int max_two min_two max_three min_three max_four min_four
set_option linter.unusedVariables false
set_option linter.unusedSimpArgs false
def qjw.l0 : Nat → ByteArray → ByteArray → Int → Option (Bool)
 | 0,_,_,_ => none
 | k + 1,x0,x1,x5 => if (wrap64 (x5 + (x0.size : Int))) ≤ (x1.size : Int) then (if 0 ≤ x5 then (if x5 ≤ (wrap64 (x5 + (x0.size : Int))) then (if (x1.extract (x5 : Int).toNat ((wrap64 (x5 + (x0.size : Int))) : Int).toNat).toList = x0.toList then (some true) else (qjw.l0 k x0 x1 (wrap64 (x5 + 1)))) else (none)) else (none)) else (some false)
def qjw.f (k : Nat) (a0 : ByteArray) (a1 : ByteArray) : Option (Bool) := qjw.l0 k a0 a1 0
set_option maxHeartbeats 8000000 in
set_option maxRecDepth 100000 in
theorem qjw.calls (k : Nat) (a0 : ByteArray) (a1 : ByteArray) (r : Bool) (w : World) (h : qjw.f k a0 a1 = some r) :
  Calls Try.prog 71 #[.string a0,.string a1] w fun e w' => e = .returned (.bool r) ∧ Drawn0 w w' := by
 have H : (qjw.l0 k a0 a1 0) = some r := h
 clear h
 have H' := qq.mk H
 clear H
 go_enter Try.func71,Try.ntmps71
 go_wp2
 go_loopg [5] k (fun kq v5 w' => ∃ (x5_1 : Int),v5 = .int .i64 x5_1 ∧ qq (qjw.l0 kq a0 a1 x5_1 = some r) ∧ qq (kq ≤ k) ∧ Drawn0 w w')
 case atStart => exact ⟨(0),(by first | rfl | (simp;done) | (simp [*];done)),H',⟨Nat.le_refl _⟩,by repeat (first | exact Drawn0.refl _ | apply Drawn0.step)⟩
 case round =>
  clear H'
  try clear p2
  obtain ⟨x5_1,rfl,HA,HK1,⟨m1,rfl⟩⟩ := hrel
  cases gk with
  | zero => exact absurd HA.out (by simp [qjw.l0])
  | succ k1 =>
   have H := HA.out
   clear HA
   simp only [qjw.l0] at H
   by_cases c3 : (wrap64 (x5_1 + (a0.size : Int))) ≤ (a1.size : Int)
   ·rw [if_pos c3] at H
    have c3b0 : decide ((wrap64 (x5_1 + (a0.size : Int))) ≤ (a1.size : Int)) = true := decide_eq_true c3
    clear c3
    by_cases c4 : 0 ≤ x5_1
    ·rw [if_pos c4] at H
     have c4b0 := eq_true c4
     have c4b1 : decide (0 ≤ x5_1) = true := decide_eq_true c4
     clear c4
     by_cases c5 : x5_1 ≤ (wrap64 (x5_1 + (a0.size : Int)))
     ·rw [if_pos c5] at H
      have c5b0 := eq_true c5
      have c5b1 : decide (x5_1 ≤ (wrap64 (x5_1 + (a0.size : Int)))) = true := decide_eq_true c5
      have c6b0 := eq_true (of_decide_eq_true (by assumption) : (wrap64 (x5_1 + (a0.size : Int))) ≤ (a1.size : Int))
      by_cases c7 : (a1.extract (x5_1 : Int).toNat ((wrap64 (x5_1 + (a0.size : Int))) : Int).toNat).toList = a0.toList
      ·rw [if_pos c7] at H
       have c7b0 : ((a1.extract (x5_1 : Int).toNat ((wrap64 (x5_1 + (a0.size : Int))) : Int).toNat).toList == a0.toList) = true := beq_iff_eq.mpr c7
       have c7b1 : ((a1.extract (x5_1 : Int).toNat ((wrap64 (x5_1 + (a0.size : Int))) : Int).toNat).toList != a0.toList) = false := bne_eq_false_iff_eq.mpr c7
       clear c7
       obtain rfl := Option.some.inj H
       go_wp2
       go_ret
       exact ⟨by first | rfl | (simp;done) | (simp [*];done),by repeat (first | exact Drawn0.refl _ | apply Drawn0.step)⟩
      ·rw [if_neg c7] at H
       have c7b0 : ((a1.extract (x5_1 : Int).toNat ((wrap64 (x5_1 + (a0.size : Int))) : Int).toNat).toList == a0.toList) = false := beq_eq_false_iff_ne.mpr c7
       have c7b1 : ((a1.extract (x5_1 : Int).toNat ((wrap64 (x5_1 + (a0.size : Int))) : Int).toNat).toList != a0.toList) = true := bne_iff_ne.mpr c7
       have H' := qq.mk H
       clear H
       go_wp2
       go_roundg k1
       case measure => have := HK1.out;omega
       case rel => exact ⟨(wrap64 (x5_1 + 1)),(by first | rfl | (simp;done) | (simp [*];done)),H',⟨by have := HK1.out;omega⟩,by repeat (first | exact Drawn0.refl _ | apply Drawn0.step)⟩
     ·rw [if_neg c5] at H
      exact absurd H (by simp)
    ·rw [if_neg c4] at H
     exact absurd H (by simp)
   ·rw [if_neg c3] at H
    have c3b0 : decide ((wrap64 (x5_1 + (a0.size : Int))) ≤ (a1.size : Int)) = false := decide_eq_false c3
    clear c3
    obtain rfl := Option.some.inj H
    go_wp2
    go_ret
    exact ⟨by first | rfl | (simp;done) | (simp [*];done),by repeat (first | exact Drawn0.refl _ | apply Drawn0.step)⟩
end Go.Proofs.Ytgolcojhnklfdaa.Pr
