/- Printed texts, walks and plain facts that the law FnExactGoodRing leans on, joined. -/
import Derived.Test.YtakocdkcfjkmdaaFullFnExactGoodRingA
import Derived.ProofKit
import Derived.OpenShut
import Derived.ShutString
import Derived.ChangeOld
import Derived.Deep.Slices
import Derived.Lib.SmallJoins
import Derived.Test.YtakocdkcfjkmdaaProg
import Derived.Below
import Derived.Deep.Draws
import Derived.Deep.AppendLies
import Derived.Maps.AppendAt
import Derived.OwnWalk
import Derived.Laws.BytesArg
import Derived.Laws.MakeOwn
import Derived.Laws.OwnMore
import Derived.Deep.OwnRows
import Derived.Tactics
import Derived.Lib.ConvBytes
import Derived.Laws.Slices
import Derived.WalkKit
import Derived.KernelRfl
import Derived.RowKit3
import Derived.Deep.LoopGhost
import Derived.Deep.QuietTactic
import Derived.BigQuiet
import Derived.WideLaws
import Derived.Deep.DeepCutAuto
import Derived.Deep.CutBlock
import Derived.Deep.RegionHeld3
import Derived.Laws.Rows
import Derived.Lib.AppendStr
import Derived.ArgAppend
import Derived.Laws.IdiomCopy
import Derived.OrdersHeld
import Derived.Laws.BitsLemmas
import Derived.RowKit
import Derived.Laws.Cover1
namespace Go.Proofs.Ytakocdkcfjkmdaa.Read
open Go.RowKit Go.ChangeShapes Go.WideShapes Go.Deep Go.Proofs.YtakocdkcfjkmdaaW.PrintWords
set_option linter.unusedVariables false
def Tells (P : Program) (t : TypeId) {α : Type} (d : Kd α) (ok : α → Prop) : Prop :=
  P.cellsOf t = d.sz ∧ ∀ (H : Type) (enc : TypeId × Value → H) (w : World) (sp : Nat → Bool) (fuel : Nat) (cs : List Value) (x : DataW H × List MemPlace),
    DataW.trod enc P w 0 sp true fuel t cs = some x → ∃ a : α, d.K w a cs ∧ ok a
theorem tells_int {P : Program} {t : TypeId} {k : IntKind} (ht : P.underlying t = some (.int k)) (hc : P.cellsOf t = 1) : Tells P t (Kd.int k) (fun n => (Lit.int k n).wf = true) :=
  ⟨hc, fun H enc w sp fuel cs x h => by
    obtain ⟨n, rfl, _, hw⟩ := DataW.trod_int ht h
    exact ⟨n, rfl, hw⟩⟩
theorem tells_string {P : Program} {t : TypeId} (ht : P.underlying t = some .string) (hc : P.cellsOf t = 1) : Tells P t Kd.string (fun s => s.size ≤ maxLen) :=
  ⟨hc, fun H enc w sp fuel cs x h => by
    obtain ⟨n, rfl, _, hs⟩ := DataW.trod_string ht h
    exact ⟨n, rfl, hs⟩⟩
theorem tells_slice {P : Program} {t e : TypeId} {α : Type} {d : Kd α} {ok : α → Prop} (ht : P.underlying t = some (.slice e)) (hc : P.cellsOf t = 1) (he : Tells P e d ok) :
    Tells P t (Kd.slice e d) (fun xs => xs.length ≤ 9223372036854775807 ∧ ∀ x ∈ xs, ok x) := by
  refine ⟨hc, fun H enc w sp fuel cs x h => ?_⟩
  rcases open_slice ht h with ⟨rfl, _⟩ | ⟨a, len, cap, m, n, D, Pl, rfl, _, hl, hm, hmm, _, hx⟩
  · exact ⟨[], ⟨none, 0, rfl, by simp, Kd.C_nil d w⟩, by simp, by simp⟩
  · have hlm : len ≤ m := by rw [hmm]; split <;> omega
    have hmax : len ≤ 9223372036854775807 := by unfold maxLen at hm; omega
    have key : ∀ j, j ≤ len → ∃ xs : List α, xs.length = j ∧ (∀ x ∈ xs, ok x) ∧ ∀ i p, xs[i]? = some p → ∃ c, c.length = d.sz ∧ d.K w p c ∧ ∀ k u, c[k]? = some u → w.cell? (a.add (i * d.sz + k)) = some u := by
      intro j
      induction j with
      | zero => exact fun _ => ⟨[], rfl, by simp, by simp⟩
      | succ j ih =>
        intro hj
        obtain ⟨xs, hxl, hok, hc⟩ := ih (by omega)
        obtain ⟨cs', h1, h2⟩ := hx j (by omega)
        obtain ⟨y, hy, hoky⟩ := he.2 H enc w sp n cs' _ h2
        obtain ⟨_, hcl, hcc⟩ := World.cells?_some h1
        refine ⟨xs ++ [y], by simp [hxl], fun x hx => ?_, fun i p hp => ?_⟩
        · rcases List.mem_append.1 hx with hx | hx
          · exact hok x hx
          · rw [List.mem_singleton.1 hx]; exact hoky
        · rcases Nat.lt_or_ge i xs.length with hi | hi
          · rw [List.getElem?_append_left hi] at hp
            exact hc i p hp
          · rw [List.getElem?_append_right hi] at hp
            have hi' : i = xs.length := by
              rcases Nat.eq_zero_or_pos (i - xs.length) with h0 | h0
              · omega
              · rw [List.getElem?_eq_none (by simp; omega)] at hp; cases hp
            subst hi'
            simp only [Nat.sub_self, List.getElem?_cons_zero, Option.some.injEq] at hp
            subst hp
            refine ⟨cs', by rw [hcl, he.1], hy, fun k u hu => ?_⟩
            have hk : k < P.cellsOf e := by
              rcases Nat.lt_or_ge k cs'.length with h | h
              · omega
              · rw [List.getElem?_eq_none h] at hu; cases hu
            have := hcc k hk
            rw [Go.Addr.add_add, he.1, ← hxl] at this
            rw [this]; exact hu
    obtain ⟨xs, hxl, hok, hc⟩ := key len (Nat.le_refl _)
    refine ⟨xs, ⟨some a, cap, by rw [hxl], by omega, ?_⟩, by omega, hok⟩
    exact ⟨rfl, by omega, fun _ => ⟨a, rfl, hc⟩⟩
def TellsFs (P : Program) (fs : List Field) (o : Nat) {α : Type} (d : Kd α) (ok : α → Prop) : Prop :=
  ∀ (H : Type) (enc : TypeId × Value → H) (w : World) (sp : Nat → Bool) (n : Nat) (cs : List Value), o + d.sz = cs.length →
    (∀ f ∈ fs, ∃ x, DataW.trod enc P w 0 sp true n f.type ((cs.drop f.offset).take (P.cellsOf f.type)) = some x) → ∃ a, d.K w a (cs.drop o) ∧ ok a
theorem fs_one {P : Program} {f : Field} {o : Nat} {α : Type} {d : Kd α} {ok : α → Prop} (ho : f.offset = o) (hf : Tells P f.type d ok) : TellsFs P [f] o d ok := by
  intro H enc w sp n cs hl h
  obtain ⟨x, hx⟩ := h f List.mem_cons_self
  obtain ⟨a, ha, hok⟩ := hf.2 H enc w sp n _ x hx
  refine ⟨a, ?_, hok⟩
  rw [ho, hf.1, List.take_of_length_le (by rw [List.length_drop]; omega)] at ha
  exact ha
theorem fs_cons {P : Program} {f : Field} {fs : List Field} {o : Nat} {α β : Type} {d : Kd α} {ok : α → Prop} {d2 : Kd β} {ok2 : β → Prop} (ho : f.offset = o) (hf : Tells P f.type d ok)
    (hr : TellsFs P fs (o + d.sz) d2 ok2) : TellsFs P (f :: fs) o (Kd.pair d d2) (fun p => ok p.1 ∧ ok2 p.2) := by
  intro H enc w sp n cs hl h
  have hl' : o + (d.sz + d2.sz) = cs.length := hl
  obtain ⟨x, hx⟩ := h f List.mem_cons_self
  obtain ⟨a, ha, hok⟩ := hf.2 H enc w sp n _ x hx
  obtain ⟨b, hb, hok2⟩ := hr H enc w sp n cs (by omega) (fun g hg => h g (List.mem_cons_of_mem _ hg))
  refine ⟨(a, b), ⟨(cs.drop o).take d.sz, cs.drop (o + d.sz), ?_, ?_, hb⟩, hok, hok2⟩
  · rw [← List.drop_drop, List.take_append_drop]
  · rw [ho, hf.1] at ha; exact ha
theorem tells_struct {P : Program} {t : TypeId} {fs : Array Field} {α : Type} {d : Kd α} {ok : α → Prop} (ht : P.underlying t = some (.struct fs)) (hc : P.cellsOf t = d.sz) (hf : TellsFs P fs.toList 0 d ok) : Tells P t d ok := by
  refine ⟨hc, fun H enc w sp fuel cs x h => ?_⟩
  obtain ⟨xs, n, rfl, _, hl, hxl, hx⟩ := DataW.trod_struct ht h
  have := hf H enc w sp n cs (by rw [Nat.zero_add, ← hc, hl]) (fun f hmem => by
    obtain ⟨i, hi, rfl⟩ := List.getElem_of_mem hmem
    have hi' : i < fs.size := by simpa using hi
    have h1 := hx i (fs.toList[i]) (by simp [hi'])
    refine ⟨xs[i]'(by omega), ?_⟩
    rw [h1, List.getElem?_eq_getElem])
  simpa using this
theorem tells_iso {P : Program} {t : TypeId} {α β : Type} {d : Kd α} {ok : α → Prop} (f : β → α) (g : α → β) (hfg : ∀ a, f (g a) = a) (h : Tells P t d ok) : Tells P t (Kd.iso d f) (fun b => ok (f b)) :=
  ⟨h.1, fun H enc w sp fuel cs x hx => by
    obtain ⟨a, ha, hok⟩ := h.2 H enc w sp fuel cs x hx
    exact ⟨g a, by show d.K w (f (g a)) cs; rw [hfg]; exact ha, by show ok (f (g a)); rw [hfg]; exact hok⟩⟩
theorem tells_weaken {P : Program} {t : TypeId} {α : Type} {d : Kd α} {ok ok' : α → Prop} (h : Tells P t d ok) (hw : ∀ a, ok a → ok' a) : Tells P t d ok' :=
  ⟨h.1, fun H enc w sp fuel cs x hx => let ⟨a, ha, ho⟩ := h.2 H enc w sp fuel cs x hx; ⟨a, ha, hw a ho⟩⟩
theorem tells_arg {P : Program} {t : TypeId} {α : Type} {d : Kd α} {ok : α → Prop} (h : Tells P t d ok) {H : Type} {enc : TypeId × Value → H} {w : World} {sp : Nat → Bool} {v : Value} {D : DataW H} {ps : List MemPlace}
    (hv : DataW.Trod enc P w 0 sp true t v D ps) : ∃ a, d.K w a v.cells.toList ∧ ok a := by
  obtain ⟨fuel, hf⟩ := hv
  exact h.2 H enc w sp fuel _ _ hf
theorem int_bounds {n : Int} (h : (Lit.int .i64 n).wf = true) : -9223372036854775808 ≤ n ∧ n ≤ 9223372036854775807 := by
  simpa [Lit.wf, IntKind.min, IntKind.max, IntKind.signed, IntKind.bits] using h
def okI (n : Int) : Prop := -9223372036854775808 ≤ n ∧ n ≤ 9223372036854775807
def okS (s : ByteArray) : Prop := s.size ≤ 9223372036854775807
def okL {α : Type} (ok : α → Prop) (xs : List α) : Prop := xs.length ≤ 9223372036854775807 ∧ ∀ x ∈ xs, ok x
theorem tellsI {P : Program} {t : TypeId} (ht : P.underlying t = some (.int .i64)) (hc : P.cellsOf t = 1) : Tells P t (Kd.int .i64) okI := tells_weaken (tells_int ht hc) fun _ h => int_bounds h
theorem tellsS {P : Program} {t : TypeId} (ht : P.underlying t = some .string) (hc : P.cellsOf t = 1) : Tells P t Kd.string okS := tells_weaken (tells_string ht hc) fun _ h => by unfold maxLen at h; exact h
theorem tellsL {P : Program} {t e : TypeId} {α : Type} {d : Kd α} {ok : α → Prop} (ht : P.underlying t = some (.slice e)) (hc : P.cellsOf t = 1) (he : Tells P e d ok) : Tells P t (Kd.slice e d) (okL ok) := tells_slice ht hc he
theorem arg_slice {P : Program} {t e : TypeId} {α : Type} {d : Kd α} {ok : α → Prop} (ht : P.underlying t = some (.slice e)) (h : Tells P t (Kd.slice e d) (okL ok)) {H : Type} {enc : TypeId × Value → H} {w w2 : World} {r : Reach} {base : Nat} {sp : Nat → Bool} {v : Value} {D : DataW H} {ps : List MemPlace}
    (ho : Value.okWide P w2 r base t v) (hv : DataW.Trod enc P w 0 sp true t v D ps) : ∃ A c xs, v = .slice A xs.length c ∧ xs.length ≤ c ∧ d.C w A xs.length xs ∧ okL ok xs := by
  obtain ⟨a, l, c, rfl⟩ := okWide_slice ht ho
  obtain ⟨xs, ⟨A, c', hc, hl, hC⟩, hok⟩ := tells_arg h hv
  simp only [Value.cells, List.cons.injEq, and_true, Value.slice.injEq] at hc
  obtain ⟨rfl, rfl, rfl⟩ := hc
  exact ⟨_, _, xs, rfl, hl, hC, hok⟩
end Go.Proofs.Ytakocdkcfjkmdaa.Read
namespace Go.Proofs.Ytakocdkcfjkmdaa.Pr
open Go.RowKit Go.Proofs.YtakocdkcfjkmdaaW.PrintWords Go.Proofs.YtakocdkcfjkmdaaW.PrintLast Go.Proofs.YtakocdkcfjkmdaaW.PrintMore
attribute [local go_sem] max2_int min2_int max_two min_two max_three min_three max_four min_four
set_option linter.unusedVariables false
set_option linter.unusedSimpArgs false
def errW : Option Int → Value
  | none => .nilIface
  | some c => .iface 0 (.int .i64 c)
theorem errW_none : errW none = .nilIface := rfl
theorem errW_some (c : Int) : errW (some c) = .iface 0 (.int .i64 c) := rfl
theorem info53 : (Try.prog.info? 53).map (fun i => (i.zero, i.size, i.bytes)) = some (some (.agg #[(.string ⟨#[]⟩), (.int .i64 0), (.int .i64 0), (.int .i64 0)]), 4, 40) := by kernel_rfl
structure S50 where
  f0 : ByteArray
  f1 : Int
  f2 : Int
  f3 : Int
def z50 : S50 := ⟨(⟨#[]⟩ : ByteArray), (0 : Int), (0 : Int), (0 : Int)⟩
def k50 : Kd S50 := Kd.iso (Kd.pair Kd.string (Kd.pair (Kd.int .i64) (Kd.pair (Kd.int .i64) (Kd.int .i64)))) (fun x : S50 => (x.f0, x.f1, x.f2, x.f3))
theorem k50_open {w : World} {x : S50} {cs : List Value} (h : k50.K w x cs) : cs = [.string x.f0, .int .i64 x.f1, .int .i64 x.f2, .int .i64 x.f3] := by
  obtain ⟨_, _, rfl, rfl, ⟨_, _, rfl, rfl, ⟨_, _, rfl, rfl, rfl⟩⟩⟩ := h
  exact rfl
def rd_T50 (xs : List S50) (i : Int) : S50 := xs.getD i.toNat z50
theorem at_T50 {w : World} {A : Option Addr} {n : Nat} {xs : List S50} (h : Kd.C k50 w A n xs) (i : Int) (h0 : 0 ≤ i) (h1 : i < n) : ∃ ad , A = some ad ∧ w.cell? (ad.add (i.toNat * 4)) = some (.string (rd_T50 xs i).f0) ∧ w.cell? ⟨(ad.add (i.toNat * 4)).block, (ad.add (i.toNat * 4)).off + 1, none⟩ = some (.int .i64 (rd_T50 xs i).f1) ∧ w.cell? ⟨(ad.add (i.toNat * 4)).block, (ad.add (i.toNat * 4)).off + 2, none⟩ = some (.int .i64 (rd_T50 xs i).f2) ∧ w.cell? ⟨(ad.add (i.toNat * 4)).block, (ad.add (i.toNat * 4)).off + 3, none⟩ = some (.int .i64 (rd_T50 xs i).f3) := by
  obtain ⟨ad, c, e, _, hK, hc0⟩ := Kd.C_get h z50 i h0 h1
  have hc : ∀ j u, c[j]? = some u → w.cell? (ad.add (i.toNat * 4 + j)) = some u := hc0
  obtain rfl := k50_open hK
  exact ⟨ad, e, hc 0 _ rfl, by rw [← add_field _ _ 1 (by omega)]; exact hc 1 _ rfl, by rw [← add_field _ _ 2 (by omega)]; exact hc 2 _ rfl, by rw [← add_field _ _ 3 (by omega)]; exact hc 3 _ rfl⟩
structure S53 where
  f0 : ByteArray
  f1 : Int
  f2 : Int
  f3 : Int
def z53 : S53 := ⟨(⟨#[]⟩ : ByteArray), (0 : Int), (0 : Int), (0 : Int)⟩
def k53 : Kd S53 := Kd.iso (Kd.pair Kd.string (Kd.pair (Kd.int .i64) (Kd.pair (Kd.int .i64) (Kd.int .i64)))) (fun x : S53 => (x.f0, x.f1, x.f2, x.f3))
theorem k53_open {w : World} {x : S53} {cs : List Value} (h : k53.K w x cs) : cs = [.string x.f0, .int .i64 x.f1, .int .i64 x.f2, .int .i64 x.f3] := by
  obtain ⟨_, _, rfl, rfl, ⟨_, _, rfl, rfl, ⟨_, _, rfl, rfl, rfl⟩⟩⟩ := h
  exact rfl
theorem k53_openM {w : World} {base : Nat} {ok : Nat → Prop} {x : S53} {cs : List Value} (h : k53.M w base ok x cs) : cs = [.string x.f0, .int .i64 x.f1, .int .i64 x.f2, .int .i64 x.f3] := by
  obtain ⟨_, _, rfl, rfl, ⟨_, _, rfl, rfl, ⟨_, _, rfl, rfl, rfl⟩⟩⟩ := h
  exact rfl
theorem k53_mkM (w : World) (base : Nat) (ok : Nat → Prop) (x : S53)  : k53.M w base ok x [.string x.f0, .int .i64 x.f1, .int .i64 x.f2, .int .i64 x.f3] := ⟨[.string x.f0], [.int .i64 x.f1, .int .i64 x.f2, .int .i64 x.f3], rfl, rfl, ⟨[.int .i64 x.f1], [.int .i64 x.f2, .int .i64 x.f3], rfl, rfl, ⟨[.int .i64 x.f2], [.int .i64 x.f3], rfl, rfl, rfl⟩⟩⟩
def rd_T53 (xs : List S53) (i : Int) : S53 := xs.getD i.toNat z53
theorem at_T53 {w : World} {A : Option Addr} {n : Nat} {xs : List S53} (h : Kd.C k53 w A n xs) (i : Int) (h0 : 0 ≤ i) (h1 : i < n) : ∃ ad , A = some ad ∧ w.cell? (ad.add (i.toNat * 4)) = some (.string (rd_T53 xs i).f0) ∧ w.cell? ⟨(ad.add (i.toNat * 4)).block, (ad.add (i.toNat * 4)).off + 1, none⟩ = some (.int .i64 (rd_T53 xs i).f1) ∧ w.cell? ⟨(ad.add (i.toNat * 4)).block, (ad.add (i.toNat * 4)).off + 2, none⟩ = some (.int .i64 (rd_T53 xs i).f2) ∧ w.cell? ⟨(ad.add (i.toNat * 4)).block, (ad.add (i.toNat * 4)).off + 3, none⟩ = some (.int .i64 (rd_T53 xs i).f3) := by
  obtain ⟨ad, c, e, _, hK, hc0⟩ := Kd.C_get h z53 i h0 h1
  have hc : ∀ j u, c[j]? = some u → w.cell? (ad.add (i.toNat * 4 + j)) = some u := hc0
  obtain rfl := k53_open hK
  exact ⟨ad, e, hc 0 _ rfl, by rw [← add_field _ _ 1 (by omega)]; exact hc 1 _ rfl, by rw [← add_field _ _ 2 (by omega)]; exact hc 2 _ rfl, by rw [← add_field _ _ 3 (by omega)]; exact hc 3 _ rfl⟩
structure S96 where
  f0 : ByteArray
  f1 : (List Int)
  f2 : (List ByteArray)
  f3 : (List ByteArray)
  f4 : (List Int)
structure S77 where
  f0 : ByteArray
  f1 : (List Int)
  f2 : (List ByteArray)
  f3 : (List ByteArray)
  f4 : (List Int)
def spec_l1Letter.f (a0 : Int) : Option (Bool) := if a0 ≥ 97 then (if a0 ≤ 122 then (some true) else (if a0 ≥ 65 then (some (decide (a0 ≤ 90))) else (some false))) else (if a0 ≥ 65 then (some (decide (a0 ≤ 90))) else (some false))
set_option maxHeartbeats 8000000 in
set_option maxRecDepth 100000 in
theorem spec_l1Letter.calls (a0 : Int) (r : Bool) (w : World) (h : spec_l1Letter.f a0 = some r) :
    Calls Try.prog 66 #[.int .u8 a0] w fun e w' => e = .returned (.bool r) ∧ Drawn0 w w' := by
  have H : (if a0 ≥ 97 then (if a0 ≤ 122 then (some true) else (if a0 ≥ 65 then (some (decide (a0 ≤ 90))) else (some false))) else (if a0 ≥ 65 then (some (decide (a0 ≤ 90))) else (some false))) = some r := h
  clear h
  by_cases c2 : a0 ≥ 97
  · rw [if_pos c2] at H
    have c2b0 : decide (97 ≤ a0) = true := decide_eq_true c2
    clear c2
    by_cases c3 : a0 ≤ 122
    · rw [if_pos c3] at H
      have c3b0 : decide (a0 ≤ 122) = true := decide_eq_true c3
      clear c3
      obtain rfl := Option.some.inj H
      go_enter Try.func66, Try.ntmps66
      go_wp2
      go_ret
      exact ⟨by first | rfl | (simp; done) | (simp [*]; done), by repeat (first | exact Drawn0.refl _ | apply Drawn0.step)⟩
    · rw [if_neg c3] at H
      have c3b0 : decide (a0 ≤ 122) = false := decide_eq_false c3
      clear c3
      by_cases c4 : a0 ≥ 65
      · rw [if_pos c4] at H
        have c4b0 : decide (65 ≤ a0) = true := decide_eq_true c4
        clear c4
        obtain rfl := Option.some.inj H
        go_enter Try.func66, Try.ntmps66
        go_wp2
        go_ret
        exact ⟨by first | rfl | (simp; done) | (simp [*]; done), by repeat (first | exact Drawn0.refl _ | apply Drawn0.step)⟩
      · rw [if_neg c4] at H
        have c4b0 : decide (65 ≤ a0) = false := decide_eq_false c4
        clear c4
        obtain rfl := Option.some.inj H
        go_enter Try.func66, Try.ntmps66
        go_wp2
        go_ret
        exact ⟨by first | rfl | (simp; done) | (simp [*]; done), by repeat (first | exact Drawn0.refl _ | apply Drawn0.step)⟩
  · rw [if_neg c2] at H
    have c2b0 : decide (97 ≤ a0) = false := decide_eq_false c2
    clear c2
    by_cases c5 : a0 ≥ 65
    · rw [if_pos c5] at H
      have c5b0 : decide (65 ≤ a0) = true := decide_eq_true c5
      clear c5
      obtain rfl := Option.some.inj H
      go_enter Try.func66, Try.ntmps66
      go_wp2
      go_ret
      exact ⟨by first | rfl | (simp; done) | (simp [*]; done), by repeat (first | exact Drawn0.refl _ | apply Drawn0.step)⟩
    · rw [if_neg c5] at H
      have c5b0 : decide (65 ≤ a0) = false := decide_eq_false c5
      clear c5
      obtain rfl := Option.some.inj H
      go_enter Try.func66, Try.ntmps66
      go_wp2
      go_ret
      exact ⟨by first | rfl | (simp; done) | (simp [*]; done), by repeat (first | exact Drawn0.refl _ | apply Drawn0.step)⟩
def spec_l1Digit.f (a0 : Int) : Option (Bool) := if a0 ≥ 48 then (some (decide (a0 ≤ 57))) else (some false)
set_option maxHeartbeats 8000000 in
set_option maxRecDepth 100000 in
theorem spec_l1Digit.calls (a0 : Int) (r : Bool) (w : World) (h : spec_l1Digit.f a0 = some r) :
    Calls Try.prog 67 #[.int .u8 a0] w fun e w' => e = .returned (.bool r) ∧ Drawn0 w w' := by
  have H : (if a0 ≥ 48 then (some (decide (a0 ≤ 57))) else (some false)) = some r := h
  clear h
  by_cases c2 : a0 ≥ 48
  · rw [if_pos c2] at H
    have c2b0 : decide (48 ≤ a0) = true := decide_eq_true c2
    clear c2
    obtain rfl := Option.some.inj H
    go_enter Try.func67, Try.ntmps67
    go_wp2
    go_ret
    exact ⟨by first | rfl | (simp; done) | (simp [*]; done), by repeat (first | exact Drawn0.refl _ | apply Drawn0.step)⟩
  · rw [if_neg c2] at H
    have c2b0 : decide (48 ≤ a0) = false := decide_eq_false c2
    clear c2
    obtain rfl := Option.some.inj H
    go_enter Try.func67, Try.ntmps67
    go_wp2
    go_ret
    exact ⟨by first | rfl | (simp; done) | (simp [*]; done), by repeat (first | exact Drawn0.refl _ | apply Drawn0.step)⟩
def spec_l7Id.l0 : Nat → ByteArray → Int → Option (Bool)
  | 0, _, _ => none
  | k + 1, x0, x3 => if x3 < (x0.size : Int) then (if 0 ≤ x3 then ((spec_l1Letter.f (bt x0 x3)).bind fun t101 => (if t101 = true then (spec_l7Id.l0 k x0 (wrap64 (x3 + 1))) else ((spec_l1Digit.f (bt x0 x3)).bind fun t102 => (if t102 = true then (spec_l7Id.l0 k x0 (wrap64 (x3 + 1))) else (if (bt x0 x3) = 95 then (spec_l7Id.l0 k x0 (wrap64 (x3 + 1))) else (if (bt x0 x3) = 45 then (spec_l7Id.l0 k x0 (wrap64 (x3 + 1))) else (if (bt x0 x3) = 46 then (spec_l7Id.l0 k x0 (wrap64 (x3 + 1))) else (some false)))))))) else (none)) else (if (x0.size : Int) ≥ 1 then (some (decide ((x0.size : Int) ≤ 40))) else (some false))
def spec_l7Id.f (k : Nat) (a0 : ByteArray) : Option (Bool) := spec_l7Id.l0 k a0 0
set_option maxHeartbeats 8000000 in
set_option maxRecDepth 100000 in
theorem spec_l7Id.calls (k : Nat) (a0 : ByteArray) (r : Bool) (w : World) (h : spec_l7Id.f k a0 = some r) :
    Calls Try.prog 37 #[.string a0] w fun e w' => e = .returned (.bool r) ∧ Drawn0 w w' := by
  have H : (spec_l7Id.l0 k a0 0) = some r := h
  clear h
  have H' := Aside0.mk H
  clear H
  go_enter Try.func37, Try.ntmps37
  go_wp2
  go_loopg [3] k (fun kq v3 w' => ∃ (x3_1 : Int), v3 = .int .i64 x3_1 ∧ Aside0 (spec_l7Id.l0 kq a0 x3_1 = some r) ∧ Aside0 (kq ≤ k) ∧ Drawn0 w w')
  case atStart => exact ⟨(0), (by first | rfl | (simp; done) | (simp [*]; done)), H', ⟨Nat.le_refl _⟩, by repeat (first | exact Drawn0.refl _ | apply Drawn0.step)⟩
  case round =>
    clear H'
    obtain ⟨x3_1, rfl, HA, HK1, ⟨m1, rfl⟩⟩ := hrel
    cases gk with
    | zero => exact absurd HA.out (by simp [spec_l7Id.l0])
    | succ k1 =>
      have H := HA.out
      clear HA
      simp only [spec_l7Id.l0] at H
      by_cases c2 : x3_1 < (a0.size : Int)
      · rw [if_pos c2] at H
        have c2b0 : decide (x3_1 < (a0.size : Int)) = true := decide_eq_true c2
        clear c2
        by_cases c3 : 0 ≤ x3_1
        · rw [if_pos c3] at H
          have c3b0 : decide (0 ≤ x3_1) = true := decide_eq_true c3
          clear c3
          replace H := Option.bind_eq_some_iff.mp H
          obtain ⟨t101, A50, H⟩ := H
          replace H : (if t101 = true then (spec_l7Id.l0 k1 a0 (wrap64 (x3_1 + 1))) else ((spec_l1Digit.f (bt a0 x3_1)).bind fun t102 => (if t102 = true then (spec_l7Id.l0 k1 a0 (wrap64 (x3_1 + 1))) else (if (bt a0 x3_1) = 95 then (spec_l7Id.l0 k1 a0 (wrap64 (x3_1 + 1))) else (if (bt a0 x3_1) = 45 then (spec_l7Id.l0 k1 a0 (wrap64 (x3_1 + 1))) else (if (bt a0 x3_1) = 46 then (spec_l7Id.l0 k1 a0 (wrap64 (x3_1 + 1))) else (some false))))))) = some r := H
          have A5 := Aside0.mk A50
          clear A50
          by_cases c6 : t101 = true
          · subst c6
            have H1 : (spec_l7Id.l0 k1 a0 (wrap64 (x3_1 + 1))) = some r := by rw [if_pos rfl] at H; exact H
            clear H
            have H := H1
            clear H1
            have H' := Aside0.mk H
            clear H
            have p4 : 0 ≤ (x3_1 : Int) := of_decide_eq_true (by first | (with_reducible assumption) | assumption)
            have q4 : x3_1 < (a0.size : Int) := of_decide_eq_true (by first | (with_reducible assumption) | assumption)
            have hx4 := bt_at a0 x3_1
            replace p4 := eq_true p4
            replace q4 := eq_true q4
            go_wp2_with (first | ((with_reducible refine gate_callee (f := 66) rfl ?_); refine goesL_ (some 13) rfl rfl Try.func66 (by kernel_rfl) rfl #[.int .u8 (bt a0 x3_1)] rfl (by (try simp only [List.map_toArray, List.map_cons, List.map_nil]); first | done | rfl | (simp only [List.length_drop, List.length_take]; rfl)) ?_; (with_reducible refine (spec_l1Letter.calls (bt a0 x3_1) true _ A5.out).mono ?_); rintro e w' ⟨rfl, ⟨nd, rfl⟩⟩; refine ⟨_, rfl, ?_⟩))
            go_roundg k1
            case measure => have := HK1.out; omega
            case rel => exact ⟨(wrap64 (x3_1 + 1)), (by first | rfl | (simp; done) | (simp [*]; done)), H', ⟨by have := HK1.out; omega⟩, by repeat (first | exact Drawn0.refl _ | apply Drawn0.step)⟩
          · replace c6 := Bool.eq_false_iff.mpr c6
            subst c6
            have H1 : ((spec_l1Digit.f (bt a0 x3_1)).bind fun t102 => (if t102 = true then (spec_l7Id.l0 k1 a0 (wrap64 (x3_1 + 1))) else (if (bt a0 x3_1) = 95 then (spec_l7Id.l0 k1 a0 (wrap64 (x3_1 + 1))) else (if (bt a0 x3_1) = 45 then (spec_l7Id.l0 k1 a0 (wrap64 (x3_1 + 1))) else (if (bt a0 x3_1) = 46 then (spec_l7Id.l0 k1 a0 (wrap64 (x3_1 + 1))) else (some false)))))) = some r := by rw [if_neg (show ¬ (false = true) by decide)] at H; exact H
            clear H
            have H := H1
            clear H1
            replace H := Option.bind_eq_some_iff.mp H
            obtain ⟨t102, A80, H⟩ := H
            replace H : (if t102 = true then (spec_l7Id.l0 k1 a0 (wrap64 (x3_1 + 1))) else (if (bt a0 x3_1) = 95 then (spec_l7Id.l0 k1 a0 (wrap64 (x3_1 + 1))) else (if (bt a0 x3_1) = 45 then (spec_l7Id.l0 k1 a0 (wrap64 (x3_1 + 1))) else (if (bt a0 x3_1) = 46 then (spec_l7Id.l0 k1 a0 (wrap64 (x3_1 + 1))) else (some false))))) = some r := H
            have A8 := Aside0.mk A80
            clear A80
            by_cases c9 : t102 = true
            · subst c9
              have H1 : (spec_l7Id.l0 k1 a0 (wrap64 (x3_1 + 1))) = some r := by rw [if_pos rfl] at H; exact H
              clear H
              have H := H1
              clear H1
              have H' := Aside0.mk H
              clear H
              have p4 : 0 ≤ (x3_1 : Int) := of_decide_eq_true (by first | (with_reducible assumption) | assumption)
              have q4 : x3_1 < (a0.size : Int) := of_decide_eq_true (by first | (with_reducible assumption) | assumption)
              have hx4 := bt_at a0 x3_1
              replace p4 := eq_true p4
              replace q4 := eq_true q4
              go_wp2_with (first | ((with_reducible refine gate_callee (f := 66) rfl ?_); refine goesL_ (some 13) rfl rfl Try.func66 (by kernel_rfl) rfl #[.int .u8 (bt a0 x3_1)] rfl (by (try simp only [List.map_toArray, List.map_cons, List.map_nil]); first | done | rfl | (simp only [List.length_drop, List.length_take]; rfl)) ?_; (with_reducible refine (spec_l1Letter.calls (bt a0 x3_1) false _ A5.out).mono ?_); rintro e w' ⟨rfl, ⟨nd, rfl⟩⟩; refine ⟨_, rfl, ?_⟩; have p7 : 0 ≤ (x3_1 : Int) := of_decide_eq_true (by first | (with_reducible assumption) | assumption); have q7 : x3_1 < (a0.size : Int) := of_decide_eq_true (by first | (with_reducible assumption) | assumption); have hx7 := bt_at a0 x3_1; replace p7 := eq_true p7; replace q7 := eq_true q7) | (go_at_call 67; (with_reducible refine (spec_l1Digit.calls (bt a0 x3_1) true _ A8.out).mono ?_); rintro e w' ⟨rfl, ⟨nd, rfl⟩⟩))
              go_roundg k1
              case measure => have := HK1.out; omega
              case rel => exact ⟨(wrap64 (x3_1 + 1)), (by first | rfl | (simp; done) | (simp [*]; done)), H', ⟨by have := HK1.out; omega⟩, by repeat (first | exact Drawn0.refl _ | apply Drawn0.step)⟩
            · replace c9 := Bool.eq_false_iff.mpr c9
              subst c9
              have H1 : (if (bt a0 x3_1) = 95 then (spec_l7Id.l0 k1 a0 (wrap64 (x3_1 + 1))) else (if (bt a0 x3_1) = 45 then (spec_l7Id.l0 k1 a0 (wrap64 (x3_1 + 1))) else (if (bt a0 x3_1) = 46 then (spec_l7Id.l0 k1 a0 (wrap64 (x3_1 + 1))) else (some false)))) = some r := by rw [if_neg (show ¬ (false = true) by decide)] at H; exact H
              clear H
              have H := H1
              clear H1
              by_cases c11 : (bt a0 x3_1) = 95
              · rw [if_pos c11] at H
                have c11b0 : ((bt a0 x3_1) == 95) = true := beq_iff_eq.mpr c11
                have c11b1 : ((bt a0 x3_1) != 95) = false := bne_eq_false_iff_eq.mpr c11
                clear c11
                have H' := Aside0.mk H
                clear H
                have p4 : 0 ≤ (x3_1 : Int) := of_decide_eq_true (by first | (with_reducible assumption) | assumption)
                have q4 : x3_1 < (a0.size : Int) := of_decide_eq_true (by first | (with_reducible assumption) | assumption)
                have hx4 := bt_at a0 x3_1
                replace p4 := eq_true p4
                replace q4 := eq_true q4
                go_wp2_with (first | ((with_reducible refine gate_callee (f := 66) rfl ?_); refine goesL_ (some 13) rfl rfl Try.func66 (by kernel_rfl) rfl #[.int .u8 (bt a0 x3_1)] rfl (by (try simp only [List.map_toArray, List.map_cons, List.map_nil]); first | done | rfl | (simp only [List.length_drop, List.length_take]; rfl)) ?_; (with_reducible refine (spec_l1Letter.calls (bt a0 x3_1) false _ A5.out).mono ?_); rintro e w' ⟨rfl, ⟨nd, rfl⟩⟩; refine ⟨_, rfl, ?_⟩; have p7 : 0 ≤ (x3_1 : Int) := of_decide_eq_true (by first | (with_reducible assumption) | assumption); have q7 : x3_1 < (a0.size : Int) := of_decide_eq_true (by first | (with_reducible assumption) | assumption); have hx7 := bt_at a0 x3_1; replace p7 := eq_true p7; replace q7 := eq_true q7) | (go_at_call 67; (with_reducible refine (spec_l1Digit.calls (bt a0 x3_1) false _ A8.out).mono ?_); rintro e w' ⟨rfl, ⟨nd, rfl⟩⟩; have p10 : 0 ≤ (x3_1 : Int) := of_decide_eq_true (by first | (with_reducible assumption) | assumption); have q10 : x3_1 < (a0.size : Int) := of_decide_eq_true (by first | (with_reducible assumption) | assumption); have hx10 := bt_at a0 x3_1; replace p10 := eq_true p10; replace q10 := eq_true q10))
                go_roundg k1
                case measure => have := HK1.out; omega
                case rel => exact ⟨(wrap64 (x3_1 + 1)), (by first | rfl | (simp; done) | (simp [*]; done)), H', ⟨by have := HK1.out; omega⟩, by repeat (first | exact Drawn0.refl _ | apply Drawn0.step)⟩
              · rw [if_neg c11] at H
                have c11b0 : ((bt a0 x3_1) == 95) = false := beq_eq_false_iff_ne.mpr c11
                have c11b1 : ((bt a0 x3_1) != 95) = true := bne_iff_ne.mpr c11
                by_cases c13 : (bt a0 x3_1) = 45
                · rw [if_pos c13] at H
                  have c13b0 : ((bt a0 x3_1) == 45) = true := beq_iff_eq.mpr c13
                  have c13b1 : ((bt a0 x3_1) != 45) = false := bne_eq_false_iff_eq.mpr c13
                  clear c13
                  have H' := Aside0.mk H
                  clear H
                  have p4 : 0 ≤ (x3_1 : Int) := of_decide_eq_true (by first | (with_reducible assumption) | assumption)
                  have q4 : x3_1 < (a0.size : Int) := of_decide_eq_true (by first | (with_reducible assumption) | assumption)
                  have hx4 := bt_at a0 x3_1
                  replace p4 := eq_true p4
                  replace q4 := eq_true q4
                  go_wp2_with (first | ((with_reducible refine gate_callee (f := 66) rfl ?_); refine goesL_ (some 13) rfl rfl Try.func66 (by kernel_rfl) rfl #[.int .u8 (bt a0 x3_1)] rfl (by (try simp only [List.map_toArray, List.map_cons, List.map_nil]); first | done | rfl | (simp only [List.length_drop, List.length_take]; rfl)) ?_; (with_reducible refine (spec_l1Letter.calls (bt a0 x3_1) false _ A5.out).mono ?_); rintro e w' ⟨rfl, ⟨nd, rfl⟩⟩; refine ⟨_, rfl, ?_⟩; have p7 : 0 ≤ (x3_1 : Int) := of_decide_eq_true (by first | (with_reducible assumption) | assumption); have q7 : x3_1 < (a0.size : Int) := of_decide_eq_true (by first | (with_reducible assumption) | assumption); have hx7 := bt_at a0 x3_1; replace p7 := eq_true p7; replace q7 := eq_true q7) | (go_at_call 67; (with_reducible refine (spec_l1Digit.calls (bt a0 x3_1) false _ A8.out).mono ?_); rintro e w' ⟨rfl, ⟨nd, rfl⟩⟩; have p10 : 0 ≤ (x3_1 : Int) := of_decide_eq_true (by first | (with_reducible assumption) | assumption); have q10 : x3_1 < (a0.size : Int) := of_decide_eq_true (by first | (with_reducible assumption) | assumption); have hx10 := bt_at a0 x3_1; replace p10 := eq_true p10; replace q10 := eq_true q10; have p12 : 0 ≤ (x3_1 : Int) := of_decide_eq_true (by first | (with_reducible assumption) | assumption); have q12 : x3_1 < (a0.size : Int) := of_decide_eq_true (by first | (with_reducible assumption) | assumption); have hx12 := bt_at a0 x3_1; replace p12 := eq_true p12; replace q12 := eq_true q12))
                  go_roundg k1
                  case measure => have := HK1.out; omega
                  case rel => exact ⟨(wrap64 (x3_1 + 1)), (by first | rfl | (simp; done) | (simp [*]; done)), H', ⟨by have := HK1.out; omega⟩, by repeat (first | exact Drawn0.refl _ | apply Drawn0.step)⟩
                · rw [if_neg c13] at H
                  have c13b0 : ((bt a0 x3_1) == 45) = false := beq_eq_false_iff_ne.mpr c13
                  have c13b1 : ((bt a0 x3_1) != 45) = true := bne_iff_ne.mpr c13
                  by_cases c15 : (bt a0 x3_1) = 46
                  · rw [if_pos c15] at H
                    have c15b0 : ((bt a0 x3_1) == 46) = true := beq_iff_eq.mpr c15
                    have c15b1 : ((bt a0 x3_1) != 46) = false := bne_eq_false_iff_eq.mpr c15
                    clear c15
                    have H' := Aside0.mk H
                    clear H
                    have p4 : 0 ≤ (x3_1 : Int) := of_decide_eq_true (by first | (with_reducible assumption) | assumption)
                    have q4 : x3_1 < (a0.size : Int) := of_decide_eq_true (by first | (with_reducible assumption) | assumption)
                    have hx4 := bt_at a0 x3_1
                    replace p4 := eq_true p4
                    replace q4 := eq_true q4
                    go_wp2_with (first | ((with_reducible refine gate_callee (f := 66) rfl ?_); refine goesL_ (some 13) rfl rfl Try.func66 (by kernel_rfl) rfl #[.int .u8 (bt a0 x3_1)] rfl (by (try simp only [List.map_toArray, List.map_cons, List.map_nil]); first | done | rfl | (simp only [List.length_drop, List.length_take]; rfl)) ?_; (with_reducible refine (spec_l1Letter.calls (bt a0 x3_1) false _ A5.out).mono ?_); rintro e w' ⟨rfl, ⟨nd, rfl⟩⟩; refine ⟨_, rfl, ?_⟩; have p7 : 0 ≤ (x3_1 : Int) := of_decide_eq_true (by first | (with_reducible assumption) | assumption); have q7 : x3_1 < (a0.size : Int) := of_decide_eq_true (by first | (with_reducible assumption) | assumption); have hx7 := bt_at a0 x3_1; replace p7 := eq_true p7; replace q7 := eq_true q7) | (go_at_call 67; (with_reducible refine (spec_l1Digit.calls (bt a0 x3_1) false _ A8.out).mono ?_); rintro e w' ⟨rfl, ⟨nd, rfl⟩⟩; have p10 : 0 ≤ (x3_1 : Int) := of_decide_eq_true (by first | (with_reducible assumption) | assumption); have q10 : x3_1 < (a0.size : Int) := of_decide_eq_true (by first | (with_reducible assumption) | assumption); have hx10 := bt_at a0 x3_1; replace p10 := eq_true p10; replace q10 := eq_true q10; have p12 : 0 ≤ (x3_1 : Int) := of_decide_eq_true (by first | (with_reducible assumption) | assumption); have q12 : x3_1 < (a0.size : Int) := of_decide_eq_true (by first | (with_reducible assumption) | assumption); have hx12 := bt_at a0 x3_1; replace p12 := eq_true p12; replace q12 := eq_true q12; have p14 : 0 ≤ (x3_1 : Int) := of_decide_eq_true (by first | (with_reducible assumption) | assumption); have q14 : x3_1 < (a0.size : Int) := of_decide_eq_true (by first | (with_reducible assumption) | assumption); have hx14 := bt_at a0 x3_1; replace p14 := eq_true p14; replace q14 := eq_true q14))
                    go_roundg k1
                    case measure => have := HK1.out; omega
                    case rel => exact ⟨(wrap64 (x3_1 + 1)), (by first | rfl | (simp; done) | (simp [*]; done)), H', ⟨by have := HK1.out; omega⟩, by repeat (first | exact Drawn0.refl _ | apply Drawn0.step)⟩
                  · rw [if_neg c15] at H
                    have c15b0 : ((bt a0 x3_1) == 46) = false := beq_eq_false_iff_ne.mpr c15
                    have c15b1 : ((bt a0 x3_1) != 46) = true := bne_iff_ne.mpr c15
                    obtain rfl := Option.some.inj H
                    have p4 : 0 ≤ (x3_1 : Int) := of_decide_eq_true (by first | (with_reducible assumption) | assumption)
                    have q4 : x3_1 < (a0.size : Int) := of_decide_eq_true (by first | (with_reducible assumption) | assumption)
                    have hx4 := bt_at a0 x3_1
                    replace p4 := eq_true p4
                    replace q4 := eq_true q4
                    go_wp2_with (first | ((with_reducible refine gate_callee (f := 66) rfl ?_); refine goesL_ (some 13) rfl rfl Try.func66 (by kernel_rfl) rfl #[.int .u8 (bt a0 x3_1)] rfl (by (try simp only [List.map_toArray, List.map_cons, List.map_nil]); first | done | rfl | (simp only [List.length_drop, List.length_take]; rfl)) ?_; (with_reducible refine (spec_l1Letter.calls (bt a0 x3_1) false _ A5.out).mono ?_); rintro e w' ⟨rfl, ⟨nd, rfl⟩⟩; refine ⟨_, rfl, ?_⟩; have p7 : 0 ≤ (x3_1 : Int) := of_decide_eq_true (by first | (with_reducible assumption) | assumption); have q7 : x3_1 < (a0.size : Int) := of_decide_eq_true (by first | (with_reducible assumption) | assumption); have hx7 := bt_at a0 x3_1; replace p7 := eq_true p7; replace q7 := eq_true q7) | (go_at_call 67; (with_reducible refine (spec_l1Digit.calls (bt a0 x3_1) false _ A8.out).mono ?_); rintro e w' ⟨rfl, ⟨nd, rfl⟩⟩; have p10 : 0 ≤ (x3_1 : Int) := of_decide_eq_true (by first | (with_reducible assumption) | assumption); have q10 : x3_1 < (a0.size : Int) := of_decide_eq_true (by first | (with_reducible assumption) | assumption); have hx10 := bt_at a0 x3_1; replace p10 := eq_true p10; replace q10 := eq_true q10; have p12 : 0 ≤ (x3_1 : Int) := of_decide_eq_true (by first | (with_reducible assumption) | assumption); have q12 : x3_1 < (a0.size : Int) := of_decide_eq_true (by first | (with_reducible assumption) | assumption); have hx12 := bt_at a0 x3_1; replace p12 := eq_true p12; replace q12 := eq_true q12; have p14 : 0 ≤ (x3_1 : Int) := of_decide_eq_true (by first | (with_reducible assumption) | assumption); have q14 : x3_1 < (a0.size : Int) := of_decide_eq_true (by first | (with_reducible assumption) | assumption); have hx14 := bt_at a0 x3_1; replace p14 := eq_true p14; replace q14 := eq_true q14))
                    go_ret
                    exact ⟨by first | rfl | (simp; done) | (simp [*]; done), by repeat (first | exact Drawn0.refl _ | apply Drawn0.step)⟩
        · rw [if_neg c3] at H
          exact absurd H (by simp)
      · rw [if_neg c2] at H
        have c2b0 : decide (x3_1 < (a0.size : Int)) = false := decide_eq_false c2
        clear c2
        by_cases c16 : (a0.size : Int) ≥ 1
        · rw [if_pos c16] at H
          have c16b0 : decide (1 ≤ (a0.size : Int)) = true := decide_eq_true c16
          have c16b1 : decide (1 ≤ a0.size) = true := decide_eq_true (by omega)
          clear c16
          obtain rfl := Option.some.inj H
          go_wp2
          go_ret
          exact ⟨by first | rfl | (simp; done) | (simp [*]; done), by repeat (first | exact Drawn0.refl _ | apply Drawn0.step)⟩
        · rw [if_neg c16] at H
          have c16b0 : decide (1 ≤ (a0.size : Int)) = false := decide_eq_false c16
          have c16b1 : decide (1 ≤ a0.size) = false := decide_eq_false (by omega)
          clear c16
          obtain rfl := Option.some.inj H
          go_wp2
          go_ret
          exact ⟨by first | rfl | (simp; done) | (simp [*]; done), by repeat (first | exact Drawn0.refl _ | apply Drawn0.step)⟩
def spec_l1CmpNum.f (a0 : Int) (a1 : Int) : Option (Int) := if a0 < a1 then (some (-1)) else (if a0 > a1 then (some 1) else (some 0))
set_option maxHeartbeats 8000000 in
set_option maxRecDepth 100000 in
theorem spec_l1CmpNum.calls (a0 : Int) (a1 : Int) (r : Int) (w : World) (h : spec_l1CmpNum.f a0 a1 = some r) :
    Calls Try.prog 68 #[.int .i64 a0, .int .i64 a1] w fun e w' => e = .returned (.int .i64 r) ∧ Drawn0 w w' := by
  have H : (if a0 < a1 then (some (-1)) else (if a0 > a1 then (some 1) else (some 0))) = some r := h
  clear h
  by_cases c3 : a0 < a1
  · rw [if_pos c3] at H
    have c3b0 : decide (a0 < a1) = true := decide_eq_true c3
    clear c3
    obtain rfl := Option.some.inj H
    go_enter Try.func68, Try.ntmps68
    go_wp2
    go_ret
    exact ⟨by first | rfl | (simp; done) | (simp [*]; done), by repeat (first | exact Drawn0.refl _ | apply Drawn0.step)⟩
  · rw [if_neg c3] at H
    have c3b0 : decide (a0 < a1) = false := decide_eq_false c3
    clear c3
    by_cases c4 : a0 > a1
    · rw [if_pos c4] at H
      have c4b0 : decide (a1 < a0) = true := decide_eq_true c4
      clear c4
      obtain rfl := Option.some.inj H
      go_enter Try.func68, Try.ntmps68
      go_wp2
      go_ret
      exact ⟨by first | rfl | (simp; done) | (simp [*]; done), by repeat (first | exact Drawn0.refl _ | apply Drawn0.step)⟩
    · rw [if_neg c4] at H
      have c4b0 : decide (a1 < a0) = false := decide_eq_false c4
      clear c4
      obtain rfl := Option.some.inj H
      go_enter Try.func68, Try.ntmps68
      go_wp2
      go_ret
      exact ⟨by first | rfl | (simp; done) | (simp [*]; done), by repeat (first | exact Drawn0.refl _ | apply Drawn0.step)⟩
mutual
def spec_l1CmpText.l0 : Nat → ByteArray → ByteArray → Int → Option (Int)
  | 0, _, _, _ => none
  | k + 1, x0, x1, x5 => if x5 < (x0.size : Int) then (spec_l1CmpText.j1 k x0 x1 x5 (decide (x5 < (x1.size : Int)))) else (spec_l1CmpText.j1 k x0 x1 x5 false)
def spec_l1CmpText.j1 : Nat → ByteArray → ByteArray → Int → Bool → Option (Int)
  | 0, _, _, _, _ => none
  | k + 1, x0, x1, x5, x15 => if x15 = true then (if 0 ≤ x5 then (if x5 < (x0.size : Int) then (if x5 < (x1.size : Int) then (if (bt x0 x5) = (bt x1 x5) then (spec_l1CmpText.l0 k x0 x1 (wrap64 (x5 + 1))) else ((spec_l1CmpNum.f (wrap64 (bt x0 x5)) (wrap64 (bt x1 x5))).bind fun t101 => (some t101))) else (none)) else (none)) else (none)) else ((spec_l1CmpNum.f (x0.size : Int) (x1.size : Int)).bind fun t102 => (some t102))
end
def spec_l1CmpText.f (k : Nat) (a0 : ByteArray) (a1 : ByteArray) : Option (Int) := spec_l1CmpText.l0 k a0 a1 0
set_option maxHeartbeats 8000000 in
set_option maxRecDepth 100000 in
theorem spec_l1CmpText.calls (k : Nat) (a0 : ByteArray) (a1 : ByteArray) (r : Int) (w : World) (h : spec_l1CmpText.f k a0 a1 = some r) :
    Calls Try.prog 38 #[.string a0, .string a1] w fun e w' => e = .returned (.int .i64 r) ∧ Drawn0 w w' := by
  have H : (spec_l1CmpText.l0 k a0 a1 0) = some r := h
  clear h
  have H' := Aside0.mk H
  clear H
  go_enter Try.func38, Try.ntmps38
  go_wp2
  repeat (go_quiet (fail); try go_wp2)
  go_loopg [5] k (fun kq v5 w' => ∃ (x5_1 : Int), v5 = .int .i64 x5_1 ∧ Aside0 (spec_l1CmpText.l0 kq a0 a1 x5_1 = some r) ∧ Aside0 (kq ≤ k) ∧ Drawn0 w w')
  case atStart => exact ⟨(0), (by first | rfl | (simp; done) | (simp [*]; done)), H', ⟨Nat.le_refl _⟩, by repeat (first | exact Drawn0.refl _ | apply Drawn0.step)⟩
  case round =>
    clear H'
    try clear p2
    obtain ⟨x5_1, rfl, HA, HK1, ⟨m1, rfl⟩⟩ := hrel
    cases gk with
    | zero => exact absurd HA.out (by simp [spec_l1CmpText.l0])
    | succ k1 =>
      have H := HA.out
      clear HA
      simp only [spec_l1CmpText.l0] at H
      have HC3 := Aside0.mk H
      clear H
      go_upto_region 2 with (fail)
      repeat (go_quiet (fail); go_upto_region 2 with (fail))
      go_cut [15] (fun v15 wc => ∃ (kq : Nat) (x15_2 : Bool), v15 = .bool x15_2 ∧ Aside0 (spec_l1CmpText.j1 kq a0 a1 x5_1 x15_2 = some r) ∧ Aside0 (kq ≤ k1) ∧ Drawn0 w wc)
      case first =>
        have H := HC3.out
        clear HC3
        by_cases c4 : x5_1 < (a0.size : Int)
        · rw [if_pos c4] at H
          have c4b0 : decide (x5_1 < (a0.size : Int)) = true := decide_eq_true c4
          clear c4
          (first | rw [c4b0] | (simp only [i64_w, i32_w]; rw [c4b0]) | skip)
          have H' := Aside0.mk H
          clear H
          go_wp2
          repeat (go_quiet (fail); try go_wp2)
          go_meet
          case rel => exact ⟨_, (decide (x5_1 < (a1.size : Int))), (by first | rfl | (simp; done) | (simp [*]; done)), H', ⟨by have := HK1.out; first | omega | exact Nat.le_refl _⟩, by repeat (first | exact Drawn0.refl _ | apply Drawn0.step)⟩
        · rw [if_neg c4] at H
          have c4b0 : decide (x5_1 < (a0.size : Int)) = false := decide_eq_false c4
          clear c4
          (first | rw [c4b0] | (simp only [i64_w, i32_w]; rw [c4b0]) | skip)
          have H' := Aside0.mk H
          clear H
          go_wp2
          repeat (go_quiet (fail); try go_wp2)
          go_meet
          case rel => exact ⟨_, (false), (by first | rfl | (simp; done) | (simp [*]; done)), H', ⟨by have := HK1.out; first | omega | exact Nat.le_refl _⟩, by repeat (first | exact Drawn0.refl _ | apply Drawn0.step)⟩
      case rest =>
        clear HC3
        try clear p2
        try clear c3
        try clear c4
        try clear c4b0
        try clear p2
        obtain ⟨kq, x15_2, rfl, HA, HJ2, ⟨mc2, rfl⟩⟩ := hcut
        cases kq with
        | zero => exact absurd HA.out (by simp [spec_l1CmpText.j1])
        | succ kj2 =>
          have H := HA.out
          clear HA
          simp only [spec_l1CmpText.j1] at H
          by_cases c5 : x15_2 = true
          · subst c5
            have H1 : (if 0 ≤ x5_1 then (if x5_1 < (a0.size : Int) then (if x5_1 < (a1.size : Int) then (if (bt a0 x5_1) = (bt a1 x5_1) then (spec_l1CmpText.l0 kj2 a0 a1 (wrap64 (x5_1 + 1))) else ((spec_l1CmpNum.f (wrap64 (bt a0 x5_1)) (wrap64 (bt a1 x5_1))).bind fun t101 => (some t101))) else (none)) else (none)) else (none)) = some r := by rw [if_pos rfl] at H; exact H
            clear H
            have H := H1
            clear H1
            by_cases c6 : 0 ≤ x5_1
            · rw [if_pos c6] at H
              have c6b0 : decide (0 ≤ x5_1) = true := decide_eq_true c6
              clear c6
              by_cases c7 : x5_1 < (a0.size : Int)
              · rw [if_pos c7] at H
                have c7b0 : decide (x5_1 < (a0.size : Int)) = true := decide_eq_true c7
                clear c7
                by_cases c9 : x5_1 < (a1.size : Int)
                · rw [if_pos c9] at H
                  have c9b0 : decide (x5_1 < (a1.size : Int)) = true := decide_eq_true c9
                  clear c9
                  by_cases c11 : (bt a0 x5_1) = (bt a1 x5_1)
                  · rw [if_pos c11] at H
                    have c11b0 : ((bt a0 x5_1) == (bt a1 x5_1)) = true := beq_iff_eq.mpr c11
                    have c11b1 : ((bt a0 x5_1) != (bt a1 x5_1)) = false := bne_eq_false_iff_eq.mpr c11
                    clear c11
                    have H' := Aside0.mk H
                    clear H
                    have p8 : 0 ≤ (x5_1 : Int) := of_decide_eq_true (by first | (with_reducible assumption) | assumption)
                    have q8 : x5_1 < (a0.size : Int) := of_decide_eq_true (by first | (with_reducible assumption) | assumption)
                    have hx8 := bt_at a0 x5_1
                    replace p8 := eq_true p8
                    replace q8 := eq_true q8
                    have p10 : 0 ≤ (x5_1 : Int) := of_decide_eq_true (by first | (with_reducible assumption) | assumption)
                    have q10 : x5_1 < (a1.size : Int) := of_decide_eq_true (by first | (with_reducible assumption) | assumption)
                    have hx10 := bt_at a1 x5_1
                    replace p10 := eq_true p10
                    replace q10 := eq_true q10
                    go_wp2
                    repeat (go_quiet (fail); try go_wp2)
                    go_roundg kj2
                    case measure => have := HK1.out; have := HJ2.out; omega
                    case rel => exact ⟨(wrap64 (x5_1 + 1)), (by first | rfl | (simp; done) | (simp [*]; done)), H', ⟨by have := HK1.out; have := HJ2.out; omega⟩, by repeat (first | exact Drawn0.refl _ | apply Drawn0.step)⟩
                  · rw [if_neg c11] at H
                    have c11b0 : ((bt a0 x5_1) == (bt a1 x5_1)) = false := beq_eq_false_iff_ne.mpr c11
                    have c11b1 : ((bt a0 x5_1) != (bt a1 x5_1)) = true := bne_iff_ne.mpr c11
                    replace H := Option.bind_eq_some_iff.mp H
                    obtain ⟨t101, A140, H⟩ := H
                    replace H : (some t101) = some r := H
                    have A14 := Aside0.mk A140
                    clear A140
                    obtain rfl := Option.some.inj H
                    have p8 : 0 ≤ (x5_1 : Int) := of_decide_eq_true (by first | (with_reducible assumption) | assumption)
                    have q8 : x5_1 < (a0.size : Int) := of_decide_eq_true (by first | (with_reducible assumption) | assumption)
                    have hx8 := bt_at a0 x5_1
                    replace p8 := eq_true p8
                    replace q8 := eq_true q8
                    have p10 : 0 ≤ (x5_1 : Int) := of_decide_eq_true (by first | (with_reducible assumption) | assumption)
                    have q10 : x5_1 < (a1.size : Int) := of_decide_eq_true (by first | (with_reducible assumption) | assumption)
                    have hx10 := bt_at a1 x5_1
                    replace p10 := eq_true p10
                    replace q10 := eq_true q10
                    have p12 : 0 ≤ (x5_1 : Int) := of_decide_eq_true (by first | (with_reducible assumption) | assumption)
                    have q12 : x5_1 < (a0.size : Int) := of_decide_eq_true (by first | (with_reducible assumption) | assumption)
                    have hx12 := bt_at a0 x5_1
                    replace p12 := eq_true p12
                    replace q12 := eq_true q12
                    have p13 : 0 ≤ (x5_1 : Int) := of_decide_eq_true (by first | (with_reducible assumption) | assumption)
                    have q13 : x5_1 < (a1.size : Int) := of_decide_eq_true (by first | (with_reducible assumption) | assumption)
                    have hx13 := bt_at a1 x5_1
                    replace p13 := eq_true p13
                    replace q13 := eq_true q13
                    go_wp2_with (first | (go_at_call 68; (with_reducible refine (spec_l1CmpNum.calls (wrap64 (bt a0 x5_1)) (wrap64 (bt a1 x5_1)) t101 _ A14.out).mono ?_); rintro e w' ⟨rfl, ⟨nd, rfl⟩⟩; (try first | exact ⟨rfl, _, World.drewN_drewN _ _ _⟩ | exact ⟨rfl, _, Eq.trans (World.drewN_drewN _ _ _) (congrArg (World.drewN _) (Nat.add_assoc _ _ _))⟩)))
                    repeat (go_quiet (first | (go_at_call 68; (with_reducible refine (spec_l1CmpNum.calls (wrap64 (bt a0 x5_1)) (wrap64 (bt a1 x5_1)) t101 _ A14.out).mono ?_); rintro e w' ⟨rfl, ⟨nd, rfl⟩⟩; (try first | exact ⟨rfl, _, World.drewN_drewN _ _ _⟩ | exact ⟨rfl, _, Eq.trans (World.drewN_drewN _ _ _) (congrArg (World.drewN _) (Nat.add_assoc _ _ _))⟩))); try go_wp2_with (first | (go_at_call 68; (with_reducible refine (spec_l1CmpNum.calls (wrap64 (bt a0 x5_1)) (wrap64 (bt a1 x5_1)) t101 _ A14.out).mono ?_); rintro e w' ⟨rfl, ⟨nd, rfl⟩⟩; (try first | exact ⟨rfl, _, World.drewN_drewN _ _ _⟩ | exact ⟨rfl, _, Eq.trans (World.drewN_drewN _ _ _) (congrArg (World.drewN _) (Nat.add_assoc _ _ _))⟩))))
                    go_ret
                    exact ⟨by first | rfl | (simp; done) | (simp [*]; done), by repeat (first | exact Drawn0.refl _ | apply Drawn0.step)⟩
                · rw [if_neg c9] at H
                  exact absurd H (by simp)
              · rw [if_neg c7] at H
                exact absurd H (by simp)
            · rw [if_neg c6] at H
              exact absurd H (by simp)
          · replace c5 := Bool.eq_false_iff.mpr c5
            subst c5
            have H1 : ((spec_l1CmpNum.f (a0.size : Int) (a1.size : Int)).bind fun t102 => (some t102)) = some r := by rw [if_neg (show ¬ (false = true) by decide)] at H; exact H
            clear H
            have H := H1
            clear H1
            replace H := Option.bind_eq_some_iff.mp H
            obtain ⟨t102, A150, H⟩ := H
            replace H : (some t102) = some r := H
            have A15 := Aside0.mk A150
            clear A150
            obtain rfl := Option.some.inj H
            go_wp2_with (first | (go_at_call 68; (with_reducible refine (spec_l1CmpNum.calls (a0.size : Int) (a1.size : Int) t102 _ A15.out).mono ?_); rintro e w' ⟨rfl, ⟨nd, rfl⟩⟩; (try first | exact ⟨rfl, _, World.drewN_drewN _ _ _⟩ | exact ⟨rfl, _, Eq.trans (World.drewN_drewN _ _ _) (congrArg (World.drewN _) (Nat.add_assoc _ _ _))⟩)))
            repeat (go_quiet (first | (go_at_call 68; (with_reducible refine (spec_l1CmpNum.calls (a0.size : Int) (a1.size : Int) t102 _ A15.out).mono ?_); rintro e w' ⟨rfl, ⟨nd, rfl⟩⟩; (try first | exact ⟨rfl, _, World.drewN_drewN _ _ _⟩ | exact ⟨rfl, _, Eq.trans (World.drewN_drewN _ _ _) (congrArg (World.drewN _) (Nat.add_assoc _ _ _))⟩))); try go_wp2_with (first | (go_at_call 68; (with_reducible refine (spec_l1CmpNum.calls (a0.size : Int) (a1.size : Int) t102 _ A15.out).mono ?_); rintro e w' ⟨rfl, ⟨nd, rfl⟩⟩; (try first | exact ⟨rfl, _, World.drewN_drewN _ _ _⟩ | exact ⟨rfl, _, Eq.trans (World.drewN_drewN _ _ _) (congrArg (World.drewN _) (Nat.add_assoc _ _ _))⟩))))
            go_ret
            exact ⟨by first | rfl | (simp; done) | (simp [*]; done), by repeat (first | exact Drawn0.refl _ | apply Drawn0.step)⟩
end Go.Proofs.Ytakocdkcfjkmdaa.Pr
namespace Go.Proofs.Ytakocdkcfjkmdaa.Pr
open Go.RowKit Go.Proofs.YtakocdkcfjkmdaaW.PrintWords Go.Proofs.YtakocdkcfjkmdaaW.PrintLast Go.Proofs.YtakocdkcfjkmdaaW.PrintMore
attribute [local go_sem] max2_int min2_int max_two min_two max_three min_three max_four min_four
set_option linter.unusedVariables false
set_option linter.unusedSimpArgs false
def spec_l2Power.l0 : Nat → Int → Int → Int → Int → Int → Option (Int)
  | 0, _, _, _, _, _ => none
  | k + 1, x0, x1, x2, x7, x8 => if x8 ≥ 0 then (if x2 = 0 then (none) else (if 0 ≤ (IntKind.u64.wrap (x8)) then (if (Go.bits .and .i64 (shr .i64 x1 (IntKind.u64.wrap (x8))) 1) = 1 then (spec_l2Power.l0 k x0 x1 x2 (Int.tmod (wrap64 ((Int.tmod (wrap64 (x7 * x7)) x2) * x0)) x2) (wrap64 (x8 - 1))) else (spec_l2Power.l0 k x0 x1 x2 (Int.tmod (wrap64 (x7 * x7)) x2) (wrap64 (x8 - 1)))) else (none))) else (some x7)
def spec_l2Power.f (k : Nat) (a0 : Int) (a1 : Int) (a2 : Int) : Option (Int) := spec_l2Power.l0 k a0 a1 a2 1 40
set_option maxHeartbeats 8000000 in
set_option maxRecDepth 100000 in
theorem spec_l2Power.calls (k : Nat) (a0 : Int) (a1 : Int) (a2 : Int) (r : Int) (w : World) (h : spec_l2Power.f k a0 a1 a2 = some r) :
    Calls Try.prog 69 #[.int .i64 a0, .int .i64 a1, .int .i64 a2] w fun e w' => e = .returned (.int .i64 r) ∧ Drawn0 w w' := by
  have H : (spec_l2Power.l0 k a0 a1 a2 1 40) = some r := h
  clear h
  have H' := Aside0.mk H
  clear H
  go_enter Try.func69, Try.ntmps69
  go_wp2
  go_loopg [7, 8] k (fun kq v7 v8 w' => ∃ (x7_1 : Int) (x8_1 : Int), v7 = .int .i64 x7_1 ∧ v8 = .int .i64 x8_1 ∧ Aside0 (spec_l2Power.l0 kq a0 a1 a2 x7_1 x8_1 = some r) ∧ Aside0 (kq ≤ k) ∧ Drawn0 w w')
  case atStart => exact ⟨(1), (40), (by first | rfl | (simp; done) | (simp [*]; done)), (by first | rfl | (simp; done) | (simp [*]; done)), H', ⟨Nat.le_refl _⟩, by repeat (first | exact Drawn0.refl _ | apply Drawn0.step)⟩
  case round =>
    clear H'
    try clear p2
    obtain ⟨x7_1, x8_1, rfl, rfl, HA, HK1, ⟨m1, rfl⟩⟩ := hrel
    cases gk with
    | zero => exact absurd HA.out (by simp [spec_l2Power.l0])
    | succ k1 =>
      have H := HA.out
      clear HA
      simp only [spec_l2Power.l0] at H
      by_cases c4 : x8_1 ≥ 0
      · rw [if_pos c4] at H
        have c4b0 : decide (0 ≤ x8_1) = true := decide_eq_true c4
        clear c4
        by_cases c5 : a2 = 0
        · rw [if_pos c5] at H
          exact absurd H (by simp)
        · rw [if_neg c5] at H
          have c5b0 : (a2 == 0) = false := beq_eq_false_iff_ne.mpr c5
          have c5b1 : (a2 != 0) = true := bne_iff_ne.mpr c5
          obtain ⟨ji6, hji6⟩ : ∃ j_ : Int, (IntKind.u64.wrap (x8_1)) = j_ := ⟨_, rfl⟩
          replace H : (if 0 ≤ (ji6) then (if (Go.bits .and .i64 (shr .i64 a1 (ji6)) 1) = 1 then (spec_l2Power.l0 k1 a0 a1 a2 (Int.tmod (wrap64 ((Int.tmod (wrap64 (x7_1 * x7_1)) a2) * a0)) a2) (wrap64 (x8_1 - 1))) else (spec_l2Power.l0 k1 a0 a1 a2 (Int.tmod (wrap64 (x7_1 * x7_1)) a2) (wrap64 (x8_1 - 1)))) else (none)) = some r := by first | (rw [hji6] at H; exact H) | (simp only [hji6] at H ⊢; exact H)
          by_cases c7 : 0 ≤ (ji6)
          · rw [if_pos c7] at H
            have c7b0 := eq_true c7
            have c7b1 : decide (0 ≤ (ji6)) = true := decide_eq_true c7
            clear c7
            obtain ⟨ji8, hji8⟩ : ∃ j_ : Int, (shr .i64 a1 (ji6)) = j_ := ⟨_, rfl⟩
            replace H : (if (Go.bits .and .i64 (ji8) 1) = 1 then (spec_l2Power.l0 k1 a0 a1 a2 (Int.tmod (wrap64 ((Int.tmod (wrap64 (x7_1 * x7_1)) a2) * a0)) a2) (wrap64 (x8_1 - 1))) else (spec_l2Power.l0 k1 a0 a1 a2 (Int.tmod (wrap64 (x7_1 * x7_1)) a2) (wrap64 (x8_1 - 1)))) = some r := by first | (rw [hji8] at H; exact H) | (simp only [hji8] at H ⊢; exact H)
            have hji8_ : (a1 / 2 ^ min (ji6).toNat 64) = ji8 := hji8
            have hji8z : (ji6) ≤ 64 → (a1 / 2 ^ (ji6).toNat) = ji8 := shr_small hji8
            by_cases c9 : (Go.bits .and .i64 (ji8) 1) = 1
            · rw [if_pos c9] at H
              have c9b0 : ((Go.bits .and .i64 (ji8) 1) == 1) = true := beq_iff_eq.mpr c9
              have c9b1 : ((Go.bits .and .i64 (ji8) 1) != 1) = false := bne_eq_false_iff_eq.mpr c9
              clear c9
              have H' := Aside0.mk H
              clear H
              go_wp2
              go_roundg k1
              case measure => have := HK1.out; omega
              case rel => exact ⟨(Int.tmod (wrap64 ((Int.tmod (wrap64 (x7_1 * x7_1)) a2) * a0)) a2), (wrap64 (x8_1 - 1)), (by first | rfl | (simp; done) | (simp [*]; done)), (by first | rfl | (simp; done) | (simp [*]; done)), H', ⟨by have := HK1.out; omega⟩, by repeat (first | exact Drawn0.refl _ | apply Drawn0.step)⟩
            · rw [if_neg c9] at H
              have c9b0 : ((Go.bits .and .i64 (ji8) 1) == 1) = false := beq_eq_false_iff_ne.mpr c9
              have c9b1 : ((Go.bits .and .i64 (ji8) 1) != 1) = true := bne_iff_ne.mpr c9
              have H' := Aside0.mk H
              clear H
              go_wp2
              go_roundg k1
              case measure => have := HK1.out; omega
              case rel => exact ⟨(Int.tmod (wrap64 (x7_1 * x7_1)) a2), (wrap64 (x8_1 - 1)), (by first | rfl | (simp; done) | (simp [*]; done)), (by first | rfl | (simp; done) | (simp [*]; done)), H', ⟨by have := HK1.out; omega⟩, by repeat (first | exact Drawn0.refl _ | apply Drawn0.step)⟩
          · rw [if_neg c7] at H
            exact absurd H (by simp)
      · rw [if_neg c4] at H
        have c4b0 : decide (0 ≤ x8_1) = false := decide_eq_false c4
        clear c4
        obtain rfl := Option.some.inj H
        go_wp2
        go_ret
        exact ⟨by first | rfl | (simp; done) | (simp [*]; done), by repeat (first | exact Drawn0.refl _ | apply Drawn0.step)⟩
end Go.Proofs.Ytakocdkcfjkmdaa.Pr
namespace Go.Proofs.Ytakocdkcfjkmdaa.Pr
open Go.RowKit Go.Proofs.YtakocdkcfjkmdaaW.PrintWords Go.Proofs.YtakocdkcfjkmdaaW.PrintLast Go.Proofs.YtakocdkcfjkmdaaW.PrintMore
attribute [local go_sem] max2_int min2_int max_two min_two max_three min_three max_four min_four
set_option linter.unusedVariables false
set_option linter.unusedSimpArgs false
def spec_l2Public.f (k : Nat) (a0 : Int) : Option (Bool) := if a0 ≥ 2 then (if a0 < 2147483579 then ((spec_l2Power.f k a0 1073741789 2147483579).bind fun t101 => (some (t101 == 1))) else (some false)) else (some false)
set_option maxHeartbeats 8000000 in
set_option maxRecDepth 100000 in
theorem spec_l2Public.calls (k : Nat) (a0 : Int) (r : Bool) (w : World) (h : spec_l2Public.f k a0 = some r) :
    Calls Try.prog 39 #[.int .i64 a0] w fun e w' => e = .returned (.bool r) ∧ Drawn0 w w' := by
  have H : (if a0 ≥ 2 then (if a0 < 2147483579 then ((spec_l2Power.f k a0 1073741789 2147483579).bind fun t101 => (some (t101 == 1))) else (some false)) else (some false)) = some r := h
  clear h
  by_cases c2 : a0 ≥ 2
  · rw [if_pos c2] at H
    have c2b0 : decide (2 ≤ a0) = true := decide_eq_true c2
    clear c2
    by_cases c3 : a0 < 2147483579
    · rw [if_pos c3] at H
      have c3b0 : decide (a0 < 2147483579) = true := decide_eq_true c3
      clear c3
      replace H := Option.bind_eq_some_iff.mp H
      obtain ⟨t101, A40, H⟩ := H
      replace H : (some (t101 == 1)) = some r := H
      have A4 := Aside0.mk A40
      clear A40
      obtain rfl := Option.some.inj H
      go_enter Try.func39, Try.ntmps39
      go_wp2_with (first | (go_at_call 69; (with_reducible refine (spec_l2Power.calls k a0 1073741789 2147483579 t101 _ A4.out).mono ?_); rintro e w' ⟨rfl, ⟨nd, rfl⟩⟩))
      go_ret
      exact ⟨by first | rfl | (simp; done) | (simp [*]; done), by repeat (first | exact Drawn0.refl _ | apply Drawn0.step)⟩
    · rw [if_neg c3] at H
      have c3b0 : decide (a0 < 2147483579) = false := decide_eq_false c3
      clear c3
      obtain rfl := Option.some.inj H
      go_enter Try.func39, Try.ntmps39
      go_wp2
      go_ret
      exact ⟨by first | rfl | (simp; done) | (simp [*]; done), by repeat (first | exact Drawn0.refl _ | apply Drawn0.step)⟩
  · rw [if_neg c2] at H
    have c2b0 : decide (2 ≤ a0) = false := decide_eq_false c2
    clear c2
    obtain rfl := Option.some.inj H
    go_enter Try.func39, Try.ntmps39
    go_wp2
    go_ret
    exact ⟨by first | rfl | (simp; done) | (simp [*]; done), by repeat (first | exact Drawn0.refl _ | apply Drawn0.step)⟩
end Go.Proofs.Ytakocdkcfjkmdaa.Pr
namespace Go.Proofs.Ytakocdkcfjkmdaa.Pr
open Go.RowKit Go.Proofs.YtakocdkcfjkmdaaW.PrintWords Go.Proofs.YtakocdkcfjkmdaaW.PrintLast Go.Proofs.YtakocdkcfjkmdaaW.PrintMore
attribute [local go_sem] max2_int min2_int max_two min_two max_three min_three max_four min_four
set_option linter.unusedVariables false
set_option linter.unusedSimpArgs false
def spec_GoodRing.l0 : Nat → List (S53) → List (S53) → Int → Int → Option (Bool)
  | 0, _, _, _, _ => none
  | k + 1, x0, x5, x6, x7 => if x7 < x6 then (if 0 ≤ x7 then (if x7 < (x5.length : Int) then ((spec_l7Id.f k ((rd_T53 x5 x7).f0)).bind fun t103 => (if t103 = true then (if x7 > 0 then (if 0 ≤ (wrap64 (x7 - 1)) then (if (wrap64 (x7 - 1)) < (x0.length : Int) then ((spec_l1CmpText.f k ((rd_T53 x0 (wrap64 (x7 - 1))).f0) ((rd_T53 x5 x7).f0)).bind fun t105 => (if t105 ≥ 0 then (some false) else ((spec_l2Public.f k ((rd_T53 x5 x7).f1)).bind fun t106 => (if t106 = true then (if ((rd_T53 x5 x7).f2) < 0 then (some false) else (if ((rd_T53 x5 x7).f3) > 100000000000 then (some false) else (if ((rd_T53 x5 x7).f2) > ((rd_T53 x5 x7).f3) then (some false) else (spec_GoodRing.l0 k x0 x5 x6 (wrap64 (x7 + 1)))))) else (some false))))) else (none)) else (none)) else ((spec_l2Public.f k ((rd_T53 x5 x7).f1)).bind fun t107 => (if t107 = true then (if ((rd_T53 x5 x7).f2) < 0 then (some false) else (if ((rd_T53 x5 x7).f3) > 100000000000 then (some false) else (if ((rd_T53 x5 x7).f2) > ((rd_T53 x5 x7).f3) then (some false) else (spec_GoodRing.l0 k x0 x5 x6 (wrap64 (x7 + 1)))))) else (some false)))) else (some false))) else (none)) else (none)) else (some (decide ((x0.length : Int) ≤ 10)))
def spec_GoodRing.f (k : Nat) (l0 : List (S53)) : Option (Bool) := spec_GoodRing.l0 k l0 l0 (l0.length : Int) 0
set_option maxHeartbeats 8000000 in
set_option maxRecDepth 100000 in
theorem spec_GoodRing.calls (k : Nat) (A0 : Option Addr) (c0 : Nat) (l0 : List (S53)) (r : Bool) (w : World) (hr0 : Kd.C k53 w A0 l0.length l0) (hc0 : l0.length ≤ c0) (h : spec_GoodRing.f k l0 = some r) :
    Calls Try.prog 14 #[.slice A0 l0.length c0] w fun e w' => e = .returned (.bool r) ∧ Below w.heap.size w w' := by
  have hu53 := Try.underlying53
  have HR0 := Aside0.mk hr0
  have HC0 := Aside0.mk hc0
  clear hr0 hc0
  have HB := Aside0.mk (Below.refl w.heap.size w)
  have H : (spec_GoodRing.l0 k l0 l0 (l0.length : Int) 0) = some r := h
  clear h
  have H' := Aside0.mk H
  clear H
  go_enter Try.func14, Try.ntmps14
  go_wp2
  go_loopg [7] k (fun kq v7 w' => ∃ (x7_1 : Int), v7 = .int .i64 x7_1 ∧ Aside0 (spec_GoodRing.l0 kq l0 l0 (l0.length : Int) x7_1 = some r) ∧ Aside0 (kq ≤ k) ∧ Aside0 (Below w.heap.size w w'))
  case atStart => exact ⟨(0), (by first | rfl | (simp; done) | (simp [*]; done)), H', ⟨Nat.le_refl _⟩, ⟨by repeat (first | (with_reducible first | exact HB.out | apply below_alloc | apply pw_below_drewN | apply below_drew1) | exact HB.out)⟩⟩
  case round =>
    clear H'
    try clear c1
    obtain ⟨x7_1, rfl, HA, HK1, HB⟩ := hrel
    cases gk with
    | zero => exact absurd HA.out (by simp [spec_GoodRing.l0])
    | succ k1 =>
      have H := HA.out
      clear HA
      simp only [spec_GoodRing.l0] at H
      by_cases c2 : x7_1 < (l0.length : Int)
      · rw [if_pos c2] at H
        have c2b0 : decide (x7_1 < (l0.length : Int)) = true := decide_eq_true c2
        clear c2
        by_cases c3 : 0 ≤ x7_1
        · rw [if_pos c3] at H
          have c3b0 : decide (0 ≤ x7_1) = true := decide_eq_true c3
          clear c3
          by_cases c4 : x7_1 < (l0.length : Int)
          · rw [if_pos c4] at H
            have c4b0 : decide (x7_1 < (l0.length : Int)) = true := decide_eq_true c4
            clear c4
            replace H := Option.bind_eq_some_iff.mp H
            obtain ⟨t103, A50, H⟩ := H
            replace H : (if t103 = true then (if x7_1 > 0 then (if 0 ≤ (wrap64 (x7_1 - 1)) then (if (wrap64 (x7_1 - 1)) < (l0.length : Int) then ((spec_l1CmpText.f k1 ((rd_T53 l0 (wrap64 (x7_1 - 1))).f0) ((rd_T53 l0 x7_1).f0)).bind fun t105 => (if t105 ≥ 0 then (some false) else ((spec_l2Public.f k1 ((rd_T53 l0 x7_1).f1)).bind fun t106 => (if t106 = true then (if ((rd_T53 l0 x7_1).f2) < 0 then (some false) else (if ((rd_T53 l0 x7_1).f3) > 100000000000 then (some false) else (if ((rd_T53 l0 x7_1).f2) > ((rd_T53 l0 x7_1).f3) then (some false) else (spec_GoodRing.l0 k1 l0 l0 (l0.length : Int) (wrap64 (x7_1 + 1)))))) else (some false))))) else (none)) else (none)) else ((spec_l2Public.f k1 ((rd_T53 l0 x7_1).f1)).bind fun t107 => (if t107 = true then (if ((rd_T53 l0 x7_1).f2) < 0 then (some false) else (if ((rd_T53 l0 x7_1).f3) > 100000000000 then (some false) else (if ((rd_T53 l0 x7_1).f2) > ((rd_T53 l0 x7_1).f3) then (some false) else (spec_GoodRing.l0 k1 l0 l0 (l0.length : Int) (wrap64 (x7_1 + 1)))))) else (some false)))) else (some false)) = some r := H
            have A5 := Aside0.mk A50
            clear A50
            by_cases c6 : t103 = true
            · subst c6
              have H1 : (if x7_1 > 0 then (if 0 ≤ (wrap64 (x7_1 - 1)) then (if (wrap64 (x7_1 - 1)) < (l0.length : Int) then ((spec_l1CmpText.f k1 ((rd_T53 l0 (wrap64 (x7_1 - 1))).f0) ((rd_T53 l0 x7_1).f0)).bind fun t105 => (if t105 ≥ 0 then (some false) else ((spec_l2Public.f k1 ((rd_T53 l0 x7_1).f1)).bind fun t106 => (if t106 = true then (if ((rd_T53 l0 x7_1).f2) < 0 then (some false) else (if ((rd_T53 l0 x7_1).f3) > 100000000000 then (some false) else (if ((rd_T53 l0 x7_1).f2) > ((rd_T53 l0 x7_1).f3) then (some false) else (spec_GoodRing.l0 k1 l0 l0 (l0.length : Int) (wrap64 (x7_1 + 1)))))) else (some false))))) else (none)) else (none)) else ((spec_l2Public.f k1 ((rd_T53 l0 x7_1).f1)).bind fun t107 => (if t107 = true then (if ((rd_T53 l0 x7_1).f2) < 0 then (some false) else (if ((rd_T53 l0 x7_1).f3) > 100000000000 then (some false) else (if ((rd_T53 l0 x7_1).f2) > ((rd_T53 l0 x7_1).f3) then (some false) else (spec_GoodRing.l0 k1 l0 l0 (l0.length : Int) (wrap64 (x7_1 + 1)))))) else (some false)))) = some r := by rw [if_pos rfl] at H; exact H
              clear H
              have H := H1
              clear H1
              by_cases c7 : x7_1 > 0
              · rw [if_pos c7] at H
                have c7b0 : decide (0 < x7_1) = true := decide_eq_true c7
                clear c7
                obtain ⟨ji8, hji8⟩ : ∃ j_ : Int, (wrap64 (x7_1 - 1)) = j_ := ⟨_, rfl⟩
                replace H : (if 0 ≤ (ji8) then (if (ji8) < (l0.length : Int) then ((spec_l1CmpText.f k1 ((rd_T53 l0 (ji8)).f0) ((rd_T53 l0 x7_1).f0)).bind fun t105 => (if t105 ≥ 0 then (some false) else ((spec_l2Public.f k1 ((rd_T53 l0 x7_1).f1)).bind fun t106 => (if t106 = true then (if ((rd_T53 l0 x7_1).f2) < 0 then (some false) else (if ((rd_T53 l0 x7_1).f3) > 100000000000 then (some false) else (if ((rd_T53 l0 x7_1).f2) > ((rd_T53 l0 x7_1).f3) then (some false) else (spec_GoodRing.l0 k1 l0 l0 (l0.length : Int) (wrap64 (x7_1 + 1)))))) else (some false))))) else (none)) else (none)) = some r := by first | (rw [hji8] at H; exact H) | (simp only [hji8] at H ⊢; exact H)
                (try rw [hji8] at A5)
                have hji8w : (IntKind.i64.wrap (x7_1 - 1)) = ji8 := (i64_w _).trans hji8
                by_cases c9 : 0 ≤ (ji8)
                · rw [if_pos c9] at H
                  have c9b0 : decide (0 ≤ (ji8)) = true := decide_eq_true c9
                  clear c9
                  by_cases c10 : (ji8) < (l0.length : Int)
                  · rw [if_pos c10] at H
                    have c10b0 : decide ((ji8) < (l0.length : Int)) = true := decide_eq_true c10
                    clear c10
                    replace H := Option.bind_eq_some_iff.mp H
                    obtain ⟨t105, A110, H⟩ := H
                    replace H : (if t105 ≥ 0 then (some false) else ((spec_l2Public.f k1 ((rd_T53 l0 x7_1).f1)).bind fun t106 => (if t106 = true then (if ((rd_T53 l0 x7_1).f2) < 0 then (some false) else (if ((rd_T53 l0 x7_1).f3) > 100000000000 then (some false) else (if ((rd_T53 l0 x7_1).f2) > ((rd_T53 l0 x7_1).f3) then (some false) else (spec_GoodRing.l0 k1 l0 l0 (l0.length : Int) (wrap64 (x7_1 + 1)))))) else (some false)))) = some r := H
                    have A11 := Aside0.mk A110
                    clear A110
                    by_cases c12 : t105 ≥ 0
                    · rw [if_pos c12] at H
                      have c12b0 : decide (0 ≤ t105) = true := decide_eq_true c12
                      clear c12
                      obtain rfl := Option.some.inj H
                      have p101 : 0 ≤ (x7_1 : Int) := of_decide_eq_true (by first | (with_reducible assumption) | assumption)
                      have q101 : x7_1 < (l0.length : Int) := of_decide_eq_true (by first | (with_reducible assumption) | assumption)
                      obtain ⟨ad101, e101, hx101_0, hx101_1, hx101_2, hx101_3⟩ := at_T53 HR0.out x7_1 p101 q101
                      cases e101
                      replace hx101_0 := (HB.out.cell (World.block_lt_of_cell? w _ hx101_0)).trans hx101_0
                      replace hx101_1 := (HB.out.cell (World.block_lt_of_cell? w _ hx101_1)).trans hx101_1
                      replace hx101_2 := (HB.out.cell (World.block_lt_of_cell? w _ hx101_2)).trans hx101_2
                      replace hx101_3 := (HB.out.cell (World.block_lt_of_cell? w _ hx101_3)).trans hx101_3
                      replace p101 := eq_true p101
                      replace q101 := eq_true q101
                      try go_wp2_with (first | ((with_reducible refine gate_dst (N := 4) rfl ?_); refine box_event ?hg (N := 4) ?hd (cs := #[.string (⟨#[]⟩ : ByteArray), .int .i64 0, .int .i64 0, .int .i64 0]) (t := 53) ?hr ?_; (case hd => rfl); (case hg => rfl); (case hr => first | (go_simp; done) | (go_simp; rfl)); intro gb102 hg w13 hbox hb; have n0_ := Aside0.mk (below_step (by repeat (first | (with_reducible first | exact HB.out | apply below_alloc | apply pw_below_drewN | apply below_drew1) | exact HB.out)) hb); have n1_ := Aside0.mk (hbox); have n2_ := Aside0.mk ((by rw [hg]; exact (below_size (by repeat (first | (with_reducible first | exact HB.out | apply below_alloc | apply pw_below_drewN | apply below_drew1) | exact HB.out))) : w.heap.size ≤ gb102)); have n3_ := Aside0.mk ((by rw [hg]; exact (below_size (by repeat (first | (with_reducible first | exact HB.out | apply below_alloc | apply pw_below_drewN | apply below_drew1) | exact HB.out))) : w.heap.size ≤ gb102)); clear HB; have HB := n0_; have BK102 := n1_; have GW102 := n2_; have GE102 := n3_; clear n0_ n1_ n2_ n3_; clear hb hbox hg; have hcz14_0 : w13.cell? ⟨gb102, 0, none⟩ = some (.string (⟨#[]⟩ : ByteArray)) := (blk_cell BK102.out 0).trans rfl; have hcz14_1 : w13.cell? ⟨gb102, 1, none⟩ = some (.int .i64 0) := (blk_cell BK102.out 1).trans rfl; have hcz14_2 : w13.cell? ⟨gb102, 2, none⟩ = some (.int .i64 0) := (blk_cell BK102.out 2).trans rfl; have hcz14_3 : w13.cell? ⟨gb102, 3, none⟩ = some (.int .i64 0) := (blk_cell BK102.out 3).trans rfl; have hfz14_0 := blk_frozen BK102.out 0; have hfz14_1 := blk_frozen BK102.out 1; have hfz14_2 := blk_frozen BK102.out 2; have hfz14_3 := blk_frozen BK102.out 3))
                      have n0_ : Aside0 (((((w13.setCell ⟨gb102, 0, none⟩ (.string ((rd_T53 l0 x7_1).f0))).setCell ⟨gb102, 1, none⟩ (.int .i64 ((rd_T53 l0 x7_1).f1))).setCell ⟨gb102, 2, none⟩ (.int .i64 ((rd_T53 l0 x7_1).f2))).setCell ⟨gb102, 3, none⟩ (.int .i64 ((rd_T53 l0 x7_1).f3))).heap[gb102]? = some (.cells #[.string ((rd_T53 l0 x7_1).f0), .int .i64 ((rd_T53 l0 x7_1).f1), .int .i64 ((rd_T53 l0 x7_1).f2), .int .i64 ((rd_T53 l0 x7_1).f3)] 53 (0, 0))) := ⟨by (with_reducible repeat (first | refine blk_drewN ?_ _ | refine blk_drew ?_ | refine blk_alloc ?_ _)); refine blk_put (cs := #[.string ((rd_T53 l0 x7_1).f0), .int .i64 ((rd_T53 l0 x7_1).f1), .int .i64 ((rd_T53 l0 x7_1).f2), .int .i64 0]) ?_ 3 _ rfl; (with_reducible repeat (first | refine blk_drewN ?_ _ | refine blk_drew ?_ | refine blk_alloc ?_ _)); refine blk_put (cs := #[.string ((rd_T53 l0 x7_1).f0), .int .i64 ((rd_T53 l0 x7_1).f1), .int .i64 0, .int .i64 0]) ?_ 2 _ rfl; (with_reducible repeat (first | refine blk_drewN ?_ _ | refine blk_drew ?_ | refine blk_alloc ?_ _)); refine blk_put (cs := #[.string ((rd_T53 l0 x7_1).f0), .int .i64 0, .int .i64 0, .int .i64 0]) ?_ 1 _ rfl; (with_reducible repeat (first | refine blk_drewN ?_ _ | refine blk_drew ?_ | refine blk_alloc ?_ _)); refine blk_put (cs := #[.string (⟨#[]⟩ : ByteArray), .int .i64 0, .int .i64 0, .int .i64 0]) ?_ 0 _ rfl; (with_reducible repeat (first | refine blk_drewN ?_ _ | refine blk_drew ?_ | refine blk_alloc ?_ _)); exact BK102.out⟩
                      have n1_ : Aside0 (Below w.heap.size w ((((w13.setCell ⟨gb102, 0, none⟩ (.string ((rd_T53 l0 x7_1).f0))).setCell ⟨gb102, 1, none⟩ (.int .i64 ((rd_T53 l0 x7_1).f1))).setCell ⟨gb102, 2, none⟩ (.int .i64 ((rd_T53 l0 x7_1).f2))).setCell ⟨gb102, 3, none⟩ (.int .i64 ((rd_T53 l0 x7_1).f3)))) := ⟨by repeat (first | (with_reducible first | exact HB.out | apply below_alloc | apply pw_below_drewN | apply below_drew1 | refine below_set ?_ GE102.out) | exact HB.out)⟩
                      (try clear BK102)
                      (try clear HB)
                      generalize ((((w13.setCell ⟨gb102, 0, none⟩ (.string ((rd_T53 l0 x7_1).f0))).setCell ⟨gb102, 1, none⟩ (.int .i64 ((rd_T53 l0 x7_1).f1))).setCell ⟨gb102, 2, none⟩ (.int .i64 ((rd_T53 l0 x7_1).f2))).setCell ⟨gb102, 3, none⟩ (.int .i64 ((rd_T53 l0 x7_1).f3))) = w15 at n0_ n1_ ⊢
                      have BK102 := n0_
                      have HB := n1_
                      clear n0_ n1_
                      have p104 : 0 ≤ ((ji8) : Int) := of_decide_eq_true (by first | (with_reducible assumption) | assumption)
                      have q104 : (ji8) < (l0.length : Int) := of_decide_eq_true (by first | (with_reducible assumption) | assumption)
                      obtain ⟨ad104, e104, hx104_0, hx104_1, hx104_2, hx104_3⟩ := at_T53 HR0.out (ji8) p104 q104
                      have hw104_3 := hx104_3
                      have hw104_2 := hx104_2
                      have hw104_1 := hx104_1
                      have hw104_0 := hx104_0
                      obtain rfl : ad101 = ad104 := (by injection e104)
                      replace hx104_0 := (HB.out.cell (World.block_lt_of_cell? w _ hx104_0)).trans hx104_0
                      replace hx104_1 := (HB.out.cell (World.block_lt_of_cell? w _ hx104_1)).trans hx104_1
                      replace hx104_2 := (HB.out.cell (World.block_lt_of_cell? w _ hx104_2)).trans hx104_2
                      replace hx104_3 := (HB.out.cell (World.block_lt_of_cell? w _ hx104_3)).trans hx104_3
                      replace p104 := eq_true p104
                      replace q104 := eq_true q104
                      have hS_ := (show (fun w' => w'.cell? ⟨gb102, 0, none⟩ = some (.string ((rd_T53 l0 x7_1).f0)) ∧ w'.cell? ⟨gb102, 1, none⟩ = some (.int .i64 ((rd_T53 l0 x7_1).f1)) ∧ w'.cell? ⟨gb102, 2, none⟩ = some (.int .i64 ((rd_T53 l0 x7_1).f2)) ∧ w'.cell? ⟨gb102, 3, none⟩ = some (.int .i64 ((rd_T53 l0 x7_1).f3)) ∧ w'.cell? (ad101.add (((ji8)).toNat * 4)) = some (.string ((rd_T53 l0 (ji8)).f0)) ∧ w'.cell? ⟨(ad101.add (((ji8)).toNat * 4)).block, (ad101.add (((ji8)).toNat * 4)).off + 1, none⟩ = some (.int .i64 ((rd_T53 l0 (ji8)).f1)) ∧ w'.cell? ⟨(ad101.add (((ji8)).toNat * 4)).block, (ad101.add (((ji8)).toNat * 4)).off + 2, none⟩ = some (.int .i64 ((rd_T53 l0 (ji8)).f2)) ∧ w'.cell? ⟨(ad101.add (((ji8)).toNat * 4)).block, (ad101.add (((ji8)).toNat * 4)).off + 3, none⟩ = some (.int .i64 ((rd_T53 l0 (ji8)).f3))) (w15) from ⟨(blk_cell BK102.out 0).trans rfl, (blk_cell BK102.out 1).trans rfl, (blk_cell BK102.out 2).trans rfl, (blk_cell BK102.out 3).trans rfl, ((HB.out.cell (World.block_lt_of_cell? w _ hw104_0)).trans hw104_0), ((HB.out.cell (World.block_lt_of_cell? w _ hw104_1)).trans hw104_1), ((HB.out.cell (World.block_lt_of_cell? w _ hw104_2)).trans hw104_2), ((HB.out.cell (World.block_lt_of_cell? w _ hw104_3)).trans hw104_3)⟩)
                      obtain ⟨hS0_, hS1_, hS2_, hS3_, hS4_, hS5_, hS6_, hS7_⟩ := hS_
                      go_quiet ((first | (go_at_call 37; exact Calls.quiet_of ((spec_l7Id.calls k1 ((rd_T53 l0 x7_1).f0) true _ A5.out).mono fun _ _ h => ⟨h.1, h.2.out⟩)) | (go_at_call 38; exact Calls.quiet_of ((spec_l1CmpText.calls k1 ((rd_T53 l0 (ji8)).f0) ((rd_T53 l0 x7_1).f0) t105 _ A11.out).mono fun _ _ h => ⟨h.1, h.2.out⟩))))
                      clear hS0_ hS1_ hS2_ hS3_ hS4_ hS5_ hS6_ hS7_
                      have n0_ := Aside0.mk (blk_drewN BK102.out nq)
                      have n1_ := Aside0.mk (pw_below_drewN HB.out nq)
                      clear BK102
                      clear HB
                      have BK102 := n0_
                      have HB := n1_
                      clear n0_ n1_
                      replace hx104_0 : (World.drewN w15 nq).cell? _ = _ := hx104_0
                      replace hx104_1 : (World.drewN w15 nq).cell? _ = _ := hx104_1
                      replace hx104_2 : (World.drewN w15 nq).cell? _ = _ := hx104_2
                      replace hx104_3 : (World.drewN w15 nq).cell? _ = _ := hx104_3
                      generalize World.drewN w15 nq = w16 at BK102 HB hx104_0 hx104_1 hx104_2 hx104_3 ⊢
                      try go_wp2
                      go_ret
                      exact ⟨by first | rfl | (simp [errW_none, errW_some] <;> rfl) | (simp only [← hji8]; first | rfl | (simp [errW_none, errW_some] <;> rfl)) | (simp [*, errW_none, errW_some] <;> rfl), by repeat (first | (with_reducible first | exact HB.out | apply below_alloc | apply pw_below_drewN | apply below_drew1 | refine below_set ?_ GE102.out) | exact HB.out)⟩
                    · rw [if_neg c12] at H
                      have c12b0 : decide (0 ≤ t105) = false := decide_eq_false c12
                      clear c12
                      replace H := Option.bind_eq_some_iff.mp H
                      obtain ⟨t106, A170, H⟩ := H
                      replace H : (if t106 = true then (if ((rd_T53 l0 x7_1).f2) < 0 then (some false) else (if ((rd_T53 l0 x7_1).f3) > 100000000000 then (some false) else (if ((rd_T53 l0 x7_1).f2) > ((rd_T53 l0 x7_1).f3) then (some false) else (spec_GoodRing.l0 k1 l0 l0 (l0.length : Int) (wrap64 (x7_1 + 1)))))) else (some false)) = some r := H
                      have A17 := Aside0.mk A170
                      clear A170
                      by_cases c18 : t106 = true
                      · subst c18
                        have H1 : (if ((rd_T53 l0 x7_1).f2) < 0 then (some false) else (if ((rd_T53 l0 x7_1).f3) > 100000000000 then (some false) else (if ((rd_T53 l0 x7_1).f2) > ((rd_T53 l0 x7_1).f3) then (some false) else (spec_GoodRing.l0 k1 l0 l0 (l0.length : Int) (wrap64 (x7_1 + 1)))))) = some r := by rw [if_pos rfl] at H; exact H
                        clear H
                        have H := H1
                        clear H1
                        by_cases c19 : ((rd_T53 l0 x7_1).f2) < 0
                        · rw [if_pos c19] at H
                          have c19b0 : decide (((rd_T53 l0 x7_1).f2) < 0) = true := decide_eq_true c19
                          clear c19
                          obtain rfl := Option.some.inj H
                          have p101 : 0 ≤ (x7_1 : Int) := of_decide_eq_true (by first | (with_reducible assumption) | assumption)
                          have q101 : x7_1 < (l0.length : Int) := of_decide_eq_true (by first | (with_reducible assumption) | assumption)
                          obtain ⟨ad101, e101, hx101_0, hx101_1, hx101_2, hx101_3⟩ := at_T53 HR0.out x7_1 p101 q101
                          cases e101
                          replace hx101_0 := (HB.out.cell (World.block_lt_of_cell? w _ hx101_0)).trans hx101_0
                          replace hx101_1 := (HB.out.cell (World.block_lt_of_cell? w _ hx101_1)).trans hx101_1
                          replace hx101_2 := (HB.out.cell (World.block_lt_of_cell? w _ hx101_2)).trans hx101_2
                          replace hx101_3 := (HB.out.cell (World.block_lt_of_cell? w _ hx101_3)).trans hx101_3
                          replace p101 := eq_true p101
                          replace q101 := eq_true q101
                          try go_wp2_with (first | ((with_reducible refine gate_dst (N := 4) rfl ?_); refine box_event ?hg (N := 4) ?hd (cs := #[.string (⟨#[]⟩ : ByteArray), .int .i64 0, .int .i64 0, .int .i64 0]) (t := 53) ?hr ?_; (case hd => rfl); (case hg => rfl); (case hr => first | (go_simp; done) | (go_simp; rfl)); intro gb102 hg w20 hbox hb; have n0_ := Aside0.mk (below_step (by repeat (first | (with_reducible first | exact HB.out | apply below_alloc | apply pw_below_drewN | apply below_drew1) | exact HB.out)) hb); have n1_ := Aside0.mk (hbox); have n2_ := Aside0.mk ((by rw [hg]; exact (below_size (by repeat (first | (with_reducible first | exact HB.out | apply below_alloc | apply pw_below_drewN | apply below_drew1) | exact HB.out))) : w.heap.size ≤ gb102)); have n3_ := Aside0.mk ((by rw [hg]; exact (below_size (by repeat (first | (with_reducible first | exact HB.out | apply below_alloc | apply pw_below_drewN | apply below_drew1) | exact HB.out))) : w.heap.size ≤ gb102)); clear HB; have HB := n0_; have BK102 := n1_; have GW102 := n2_; have GE102 := n3_; clear n0_ n1_ n2_ n3_; clear hb hbox hg; have hcz21_0 : w20.cell? ⟨gb102, 0, none⟩ = some (.string (⟨#[]⟩ : ByteArray)) := (blk_cell BK102.out 0).trans rfl; have hcz21_1 : w20.cell? ⟨gb102, 1, none⟩ = some (.int .i64 0) := (blk_cell BK102.out 1).trans rfl; have hcz21_2 : w20.cell? ⟨gb102, 2, none⟩ = some (.int .i64 0) := (blk_cell BK102.out 2).trans rfl; have hcz21_3 : w20.cell? ⟨gb102, 3, none⟩ = some (.int .i64 0) := (blk_cell BK102.out 3).trans rfl; have hfz21_0 := blk_frozen BK102.out 0; have hfz21_1 := blk_frozen BK102.out 1; have hfz21_2 := blk_frozen BK102.out 2; have hfz21_3 := blk_frozen BK102.out 3))
                          have n0_ : Aside0 (((((w20.setCell ⟨gb102, 0, none⟩ (.string ((rd_T53 l0 x7_1).f0))).setCell ⟨gb102, 1, none⟩ (.int .i64 ((rd_T53 l0 x7_1).f1))).setCell ⟨gb102, 2, none⟩ (.int .i64 ((rd_T53 l0 x7_1).f2))).setCell ⟨gb102, 3, none⟩ (.int .i64 ((rd_T53 l0 x7_1).f3))).heap[gb102]? = some (.cells #[.string ((rd_T53 l0 x7_1).f0), .int .i64 ((rd_T53 l0 x7_1).f1), .int .i64 ((rd_T53 l0 x7_1).f2), .int .i64 ((rd_T53 l0 x7_1).f3)] 53 (0, 0))) := ⟨by (with_reducible repeat (first | refine blk_drewN ?_ _ | refine blk_drew ?_ | refine blk_alloc ?_ _)); refine blk_put (cs := #[.string ((rd_T53 l0 x7_1).f0), .int .i64 ((rd_T53 l0 x7_1).f1), .int .i64 ((rd_T53 l0 x7_1).f2), .int .i64 0]) ?_ 3 _ rfl; (with_reducible repeat (first | refine blk_drewN ?_ _ | refine blk_drew ?_ | refine blk_alloc ?_ _)); refine blk_put (cs := #[.string ((rd_T53 l0 x7_1).f0), .int .i64 ((rd_T53 l0 x7_1).f1), .int .i64 0, .int .i64 0]) ?_ 2 _ rfl; (with_reducible repeat (first | refine blk_drewN ?_ _ | refine blk_drew ?_ | refine blk_alloc ?_ _)); refine blk_put (cs := #[.string ((rd_T53 l0 x7_1).f0), .int .i64 0, .int .i64 0, .int .i64 0]) ?_ 1 _ rfl; (with_reducible repeat (first | refine blk_drewN ?_ _ | refine blk_drew ?_ | refine blk_alloc ?_ _)); refine blk_put (cs := #[.string (⟨#[]⟩ : ByteArray), .int .i64 0, .int .i64 0, .int .i64 0]) ?_ 0 _ rfl; (with_reducible repeat (first | refine blk_drewN ?_ _ | refine blk_drew ?_ | refine blk_alloc ?_ _)); exact BK102.out⟩
                          have n1_ : Aside0 (Below w.heap.size w ((((w20.setCell ⟨gb102, 0, none⟩ (.string ((rd_T53 l0 x7_1).f0))).setCell ⟨gb102, 1, none⟩ (.int .i64 ((rd_T53 l0 x7_1).f1))).setCell ⟨gb102, 2, none⟩ (.int .i64 ((rd_T53 l0 x7_1).f2))).setCell ⟨gb102, 3, none⟩ (.int .i64 ((rd_T53 l0 x7_1).f3)))) := ⟨by repeat (first | (with_reducible first | exact HB.out | apply below_alloc | apply pw_below_drewN | apply below_drew1 | refine below_set ?_ GE102.out) | exact HB.out)⟩
                          (try clear BK102)
                          (try clear HB)
                          generalize ((((w20.setCell ⟨gb102, 0, none⟩ (.string ((rd_T53 l0 x7_1).f0))).setCell ⟨gb102, 1, none⟩ (.int .i64 ((rd_T53 l0 x7_1).f1))).setCell ⟨gb102, 2, none⟩ (.int .i64 ((rd_T53 l0 x7_1).f2))).setCell ⟨gb102, 3, none⟩ (.int .i64 ((rd_T53 l0 x7_1).f3))) = w22 at n0_ n1_ ⊢
                          have BK102 := n0_
                          have HB := n1_
                          clear n0_ n1_
                          have p104 : 0 ≤ ((ji8) : Int) := of_decide_eq_true (by first | (with_reducible assumption) | assumption)
                          have q104 : (ji8) < (l0.length : Int) := of_decide_eq_true (by first | (with_reducible assumption) | assumption)
                          obtain ⟨ad104, e104, hx104_0, hx104_1, hx104_2, hx104_3⟩ := at_T53 HR0.out (ji8) p104 q104
                          have hw104_3 := hx104_3
                          have hw104_2 := hx104_2
                          have hw104_1 := hx104_1
                          have hw104_0 := hx104_0
                          obtain rfl : ad101 = ad104 := (by injection e104)
                          replace hx104_0 := (HB.out.cell (World.block_lt_of_cell? w _ hx104_0)).trans hx104_0
                          replace hx104_1 := (HB.out.cell (World.block_lt_of_cell? w _ hx104_1)).trans hx104_1
                          replace hx104_2 := (HB.out.cell (World.block_lt_of_cell? w _ hx104_2)).trans hx104_2
                          replace hx104_3 := (HB.out.cell (World.block_lt_of_cell? w _ hx104_3)).trans hx104_3
                          replace p104 := eq_true p104
                          replace q104 := eq_true q104
                          have hS_ := (show (fun w' => w'.cell? ⟨gb102, 0, none⟩ = some (.string ((rd_T53 l0 x7_1).f0)) ∧ w'.cell? ⟨gb102, 1, none⟩ = some (.int .i64 ((rd_T53 l0 x7_1).f1)) ∧ w'.cell? ⟨gb102, 2, none⟩ = some (.int .i64 ((rd_T53 l0 x7_1).f2)) ∧ w'.cell? ⟨gb102, 3, none⟩ = some (.int .i64 ((rd_T53 l0 x7_1).f3)) ∧ w'.cell? (ad101.add (((ji8)).toNat * 4)) = some (.string ((rd_T53 l0 (ji8)).f0)) ∧ w'.cell? ⟨(ad101.add (((ji8)).toNat * 4)).block, (ad101.add (((ji8)).toNat * 4)).off + 1, none⟩ = some (.int .i64 ((rd_T53 l0 (ji8)).f1)) ∧ w'.cell? ⟨(ad101.add (((ji8)).toNat * 4)).block, (ad101.add (((ji8)).toNat * 4)).off + 2, none⟩ = some (.int .i64 ((rd_T53 l0 (ji8)).f2)) ∧ w'.cell? ⟨(ad101.add (((ji8)).toNat * 4)).block, (ad101.add (((ji8)).toNat * 4)).off + 3, none⟩ = some (.int .i64 ((rd_T53 l0 (ji8)).f3))) (w22) from ⟨(blk_cell BK102.out 0).trans rfl, (blk_cell BK102.out 1).trans rfl, (blk_cell BK102.out 2).trans rfl, (blk_cell BK102.out 3).trans rfl, ((HB.out.cell (World.block_lt_of_cell? w _ hw104_0)).trans hw104_0), ((HB.out.cell (World.block_lt_of_cell? w _ hw104_1)).trans hw104_1), ((HB.out.cell (World.block_lt_of_cell? w _ hw104_2)).trans hw104_2), ((HB.out.cell (World.block_lt_of_cell? w _ hw104_3)).trans hw104_3)⟩)
                          obtain ⟨hS0_, hS1_, hS2_, hS3_, hS4_, hS5_, hS6_, hS7_⟩ := hS_
                          go_quiet ((first | (go_at_call 37; exact Calls.quiet_of ((spec_l7Id.calls k1 ((rd_T53 l0 x7_1).f0) true _ A5.out).mono fun _ _ h => ⟨h.1, h.2.out⟩)) | (go_at_call 38; exact Calls.quiet_of ((spec_l1CmpText.calls k1 ((rd_T53 l0 (ji8)).f0) ((rd_T53 l0 x7_1).f0) t105 _ A11.out).mono fun _ _ h => ⟨h.1, h.2.out⟩)) | (go_at_call 39; exact Calls.quiet_of ((spec_l2Public.calls k1 ((rd_T53 l0 x7_1).f1) true _ A17.out).mono fun _ _ h => ⟨h.1, h.2.out⟩))))
                          clear hS0_ hS1_ hS2_ hS3_ hS4_ hS5_ hS6_ hS7_
                          have n0_ := Aside0.mk (blk_drewN BK102.out nq)
                          have n1_ := Aside0.mk (pw_below_drewN HB.out nq)
                          clear BK102
                          clear HB
                          have BK102 := n0_
                          have HB := n1_
                          clear n0_ n1_
                          replace hx104_0 : (World.drewN w22 nq).cell? _ = _ := hx104_0
                          replace hx104_1 : (World.drewN w22 nq).cell? _ = _ := hx104_1
                          replace hx104_2 : (World.drewN w22 nq).cell? _ = _ := hx104_2
                          replace hx104_3 : (World.drewN w22 nq).cell? _ = _ := hx104_3
                          generalize World.drewN w22 nq = w23 at BK102 HB hx104_0 hx104_1 hx104_2 hx104_3 ⊢
                          try go_wp2
                          go_ret
                          exact ⟨by first | rfl | (simp [errW_none, errW_some] <;> rfl) | (simp only [← hji8]; first | rfl | (simp [errW_none, errW_some] <;> rfl)) | (simp [*, errW_none, errW_some] <;> rfl), by repeat (first | (with_reducible first | exact HB.out | apply below_alloc | apply pw_below_drewN | apply below_drew1 | refine below_set ?_ GE102.out) | exact HB.out)⟩
                        · rw [if_neg c19] at H
                          have c19b0 : decide (((rd_T53 l0 x7_1).f2) < 0) = false := decide_eq_false c19
                          clear c19
                          by_cases c24 : ((rd_T53 l0 x7_1).f3) > 100000000000
                          · rw [if_pos c24] at H
                            have c24b0 : decide (100000000000 < ((rd_T53 l0 x7_1).f3)) = true := decide_eq_true c24
                            clear c24
                            obtain rfl := Option.some.inj H
                            have p101 : 0 ≤ (x7_1 : Int) := of_decide_eq_true (by first | (with_reducible assumption) | assumption)
                            have q101 : x7_1 < (l0.length : Int) := of_decide_eq_true (by first | (with_reducible assumption) | assumption)
                            obtain ⟨ad101, e101, hx101_0, hx101_1, hx101_2, hx101_3⟩ := at_T53 HR0.out x7_1 p101 q101
                            cases e101
                            replace hx101_0 := (HB.out.cell (World.block_lt_of_cell? w _ hx101_0)).trans hx101_0
                            replace hx101_1 := (HB.out.cell (World.block_lt_of_cell? w _ hx101_1)).trans hx101_1
                            replace hx101_2 := (HB.out.cell (World.block_lt_of_cell? w _ hx101_2)).trans hx101_2
                            replace hx101_3 := (HB.out.cell (World.block_lt_of_cell? w _ hx101_3)).trans hx101_3
                            replace p101 := eq_true p101
                            replace q101 := eq_true q101
                            try go_wp2_with (first | ((with_reducible refine gate_dst (N := 4) rfl ?_); refine box_event ?hg (N := 4) ?hd (cs := #[.string (⟨#[]⟩ : ByteArray), .int .i64 0, .int .i64 0, .int .i64 0]) (t := 53) ?hr ?_; (case hd => rfl); (case hg => rfl); (case hr => first | (go_simp; done) | (go_simp; rfl)); intro gb102 hg w25 hbox hb; have n0_ := Aside0.mk (below_step (by repeat (first | (with_reducible first | exact HB.out | apply below_alloc | apply pw_below_drewN | apply below_drew1) | exact HB.out)) hb); have n1_ := Aside0.mk (hbox); have n2_ := Aside0.mk ((by rw [hg]; exact (below_size (by repeat (first | (with_reducible first | exact HB.out | apply below_alloc | apply pw_below_drewN | apply below_drew1) | exact HB.out))) : w.heap.size ≤ gb102)); have n3_ := Aside0.mk ((by rw [hg]; exact (below_size (by repeat (first | (with_reducible first | exact HB.out | apply below_alloc | apply pw_below_drewN | apply below_drew1) | exact HB.out))) : w.heap.size ≤ gb102)); clear HB; have HB := n0_; have BK102 := n1_; have GW102 := n2_; have GE102 := n3_; clear n0_ n1_ n2_ n3_; clear hb hbox hg; have hcz26_0 : w25.cell? ⟨gb102, 0, none⟩ = some (.string (⟨#[]⟩ : ByteArray)) := (blk_cell BK102.out 0).trans rfl; have hcz26_1 : w25.cell? ⟨gb102, 1, none⟩ = some (.int .i64 0) := (blk_cell BK102.out 1).trans rfl; have hcz26_2 : w25.cell? ⟨gb102, 2, none⟩ = some (.int .i64 0) := (blk_cell BK102.out 2).trans rfl; have hcz26_3 : w25.cell? ⟨gb102, 3, none⟩ = some (.int .i64 0) := (blk_cell BK102.out 3).trans rfl; have hfz26_0 := blk_frozen BK102.out 0; have hfz26_1 := blk_frozen BK102.out 1; have hfz26_2 := blk_frozen BK102.out 2; have hfz26_3 := blk_frozen BK102.out 3))
                            have n0_ : Aside0 (((((w25.setCell ⟨gb102, 0, none⟩ (.string ((rd_T53 l0 x7_1).f0))).setCell ⟨gb102, 1, none⟩ (.int .i64 ((rd_T53 l0 x7_1).f1))).setCell ⟨gb102, 2, none⟩ (.int .i64 ((rd_T53 l0 x7_1).f2))).setCell ⟨gb102, 3, none⟩ (.int .i64 ((rd_T53 l0 x7_1).f3))).heap[gb102]? = some (.cells #[.string ((rd_T53 l0 x7_1).f0), .int .i64 ((rd_T53 l0 x7_1).f1), .int .i64 ((rd_T53 l0 x7_1).f2), .int .i64 ((rd_T53 l0 x7_1).f3)] 53 (0, 0))) := ⟨by (with_reducible repeat (first | refine blk_drewN ?_ _ | refine blk_drew ?_ | refine blk_alloc ?_ _)); refine blk_put (cs := #[.string ((rd_T53 l0 x7_1).f0), .int .i64 ((rd_T53 l0 x7_1).f1), .int .i64 ((rd_T53 l0 x7_1).f2), .int .i64 0]) ?_ 3 _ rfl; (with_reducible repeat (first | refine blk_drewN ?_ _ | refine blk_drew ?_ | refine blk_alloc ?_ _)); refine blk_put (cs := #[.string ((rd_T53 l0 x7_1).f0), .int .i64 ((rd_T53 l0 x7_1).f1), .int .i64 0, .int .i64 0]) ?_ 2 _ rfl; (with_reducible repeat (first | refine blk_drewN ?_ _ | refine blk_drew ?_ | refine blk_alloc ?_ _)); refine blk_put (cs := #[.string ((rd_T53 l0 x7_1).f0), .int .i64 0, .int .i64 0, .int .i64 0]) ?_ 1 _ rfl; (with_reducible repeat (first | refine blk_drewN ?_ _ | refine blk_drew ?_ | refine blk_alloc ?_ _)); refine blk_put (cs := #[.string (⟨#[]⟩ : ByteArray), .int .i64 0, .int .i64 0, .int .i64 0]) ?_ 0 _ rfl; (with_reducible repeat (first | refine blk_drewN ?_ _ | refine blk_drew ?_ | refine blk_alloc ?_ _)); exact BK102.out⟩
                            have n1_ : Aside0 (Below w.heap.size w ((((w25.setCell ⟨gb102, 0, none⟩ (.string ((rd_T53 l0 x7_1).f0))).setCell ⟨gb102, 1, none⟩ (.int .i64 ((rd_T53 l0 x7_1).f1))).setCell ⟨gb102, 2, none⟩ (.int .i64 ((rd_T53 l0 x7_1).f2))).setCell ⟨gb102, 3, none⟩ (.int .i64 ((rd_T53 l0 x7_1).f3)))) := ⟨by repeat (first | (with_reducible first | exact HB.out | apply below_alloc | apply pw_below_drewN | apply below_drew1 | refine below_set ?_ GE102.out) | exact HB.out)⟩
                            (try clear BK102)
                            (try clear HB)
                            generalize ((((w25.setCell ⟨gb102, 0, none⟩ (.string ((rd_T53 l0 x7_1).f0))).setCell ⟨gb102, 1, none⟩ (.int .i64 ((rd_T53 l0 x7_1).f1))).setCell ⟨gb102, 2, none⟩ (.int .i64 ((rd_T53 l0 x7_1).f2))).setCell ⟨gb102, 3, none⟩ (.int .i64 ((rd_T53 l0 x7_1).f3))) = w27 at n0_ n1_ ⊢
                            have BK102 := n0_
                            have HB := n1_
                            clear n0_ n1_
                            have p104 : 0 ≤ ((ji8) : Int) := of_decide_eq_true (by first | (with_reducible assumption) | assumption)
                            have q104 : (ji8) < (l0.length : Int) := of_decide_eq_true (by first | (with_reducible assumption) | assumption)
                            obtain ⟨ad104, e104, hx104_0, hx104_1, hx104_2, hx104_3⟩ := at_T53 HR0.out (ji8) p104 q104
                            have hw104_3 := hx104_3
                            have hw104_2 := hx104_2
                            have hw104_1 := hx104_1
                            have hw104_0 := hx104_0
                            obtain rfl : ad101 = ad104 := (by injection e104)
                            replace hx104_0 := (HB.out.cell (World.block_lt_of_cell? w _ hx104_0)).trans hx104_0
                            replace hx104_1 := (HB.out.cell (World.block_lt_of_cell? w _ hx104_1)).trans hx104_1
                            replace hx104_2 := (HB.out.cell (World.block_lt_of_cell? w _ hx104_2)).trans hx104_2
                            replace hx104_3 := (HB.out.cell (World.block_lt_of_cell? w _ hx104_3)).trans hx104_3
                            replace p104 := eq_true p104
                            replace q104 := eq_true q104
                            have hS_ := (show (fun w' => w'.cell? ⟨gb102, 0, none⟩ = some (.string ((rd_T53 l0 x7_1).f0)) ∧ w'.cell? ⟨gb102, 1, none⟩ = some (.int .i64 ((rd_T53 l0 x7_1).f1)) ∧ w'.cell? ⟨gb102, 2, none⟩ = some (.int .i64 ((rd_T53 l0 x7_1).f2)) ∧ w'.cell? ⟨gb102, 3, none⟩ = some (.int .i64 ((rd_T53 l0 x7_1).f3)) ∧ w'.cell? (ad101.add (((ji8)).toNat * 4)) = some (.string ((rd_T53 l0 (ji8)).f0)) ∧ w'.cell? ⟨(ad101.add (((ji8)).toNat * 4)).block, (ad101.add (((ji8)).toNat * 4)).off + 1, none⟩ = some (.int .i64 ((rd_T53 l0 (ji8)).f1)) ∧ w'.cell? ⟨(ad101.add (((ji8)).toNat * 4)).block, (ad101.add (((ji8)).toNat * 4)).off + 2, none⟩ = some (.int .i64 ((rd_T53 l0 (ji8)).f2)) ∧ w'.cell? ⟨(ad101.add (((ji8)).toNat * 4)).block, (ad101.add (((ji8)).toNat * 4)).off + 3, none⟩ = some (.int .i64 ((rd_T53 l0 (ji8)).f3))) (w27) from ⟨(blk_cell BK102.out 0).trans rfl, (blk_cell BK102.out 1).trans rfl, (blk_cell BK102.out 2).trans rfl, (blk_cell BK102.out 3).trans rfl, ((HB.out.cell (World.block_lt_of_cell? w _ hw104_0)).trans hw104_0), ((HB.out.cell (World.block_lt_of_cell? w _ hw104_1)).trans hw104_1), ((HB.out.cell (World.block_lt_of_cell? w _ hw104_2)).trans hw104_2), ((HB.out.cell (World.block_lt_of_cell? w _ hw104_3)).trans hw104_3)⟩)
                            obtain ⟨hS0_, hS1_, hS2_, hS3_, hS4_, hS5_, hS6_, hS7_⟩ := hS_
                            go_quiet ((first | (go_at_call 37; exact Calls.quiet_of ((spec_l7Id.calls k1 ((rd_T53 l0 x7_1).f0) true _ A5.out).mono fun _ _ h => ⟨h.1, h.2.out⟩)) | (go_at_call 38; exact Calls.quiet_of ((spec_l1CmpText.calls k1 ((rd_T53 l0 (ji8)).f0) ((rd_T53 l0 x7_1).f0) t105 _ A11.out).mono fun _ _ h => ⟨h.1, h.2.out⟩)) | (go_at_call 39; exact Calls.quiet_of ((spec_l2Public.calls k1 ((rd_T53 l0 x7_1).f1) true _ A17.out).mono fun _ _ h => ⟨h.1, h.2.out⟩))))
                            clear hS0_ hS1_ hS2_ hS3_ hS4_ hS5_ hS6_ hS7_
                            have n0_ := Aside0.mk (blk_drewN BK102.out nq)
                            have n1_ := Aside0.mk (pw_below_drewN HB.out nq)
                            clear BK102
                            clear HB
                            have BK102 := n0_
                            have HB := n1_
                            clear n0_ n1_
                            replace hx104_0 : (World.drewN w27 nq).cell? _ = _ := hx104_0
                            replace hx104_1 : (World.drewN w27 nq).cell? _ = _ := hx104_1
                            replace hx104_2 : (World.drewN w27 nq).cell? _ = _ := hx104_2
                            replace hx104_3 : (World.drewN w27 nq).cell? _ = _ := hx104_3
                            generalize World.drewN w27 nq = w28 at BK102 HB hx104_0 hx104_1 hx104_2 hx104_3 ⊢
                            try go_wp2
                            go_ret
                            exact ⟨by first | rfl | (simp [errW_none, errW_some] <;> rfl) | (simp only [← hji8]; first | rfl | (simp [errW_none, errW_some] <;> rfl)) | (simp [*, errW_none, errW_some] <;> rfl), by repeat (first | (with_reducible first | exact HB.out | apply below_alloc | apply pw_below_drewN | apply below_drew1 | refine below_set ?_ GE102.out) | exact HB.out)⟩
                          · rw [if_neg c24] at H
                            have c24b0 : decide (100000000000 < ((rd_T53 l0 x7_1).f3)) = false := decide_eq_false c24
                            clear c24
                            by_cases c29 : ((rd_T53 l0 x7_1).f2) > ((rd_T53 l0 x7_1).f3)
                            · rw [if_pos c29] at H
                              have c29b0 : decide (((rd_T53 l0 x7_1).f3) < ((rd_T53 l0 x7_1).f2)) = true := decide_eq_true c29
                              clear c29
                              obtain rfl := Option.some.inj H
                              have p101 : 0 ≤ (x7_1 : Int) := of_decide_eq_true (by first | (with_reducible assumption) | assumption)
                              have q101 : x7_1 < (l0.length : Int) := of_decide_eq_true (by first | (with_reducible assumption) | assumption)
                              obtain ⟨ad101, e101, hx101_0, hx101_1, hx101_2, hx101_3⟩ := at_T53 HR0.out x7_1 p101 q101
                              cases e101
                              replace hx101_0 := (HB.out.cell (World.block_lt_of_cell? w _ hx101_0)).trans hx101_0
                              replace hx101_1 := (HB.out.cell (World.block_lt_of_cell? w _ hx101_1)).trans hx101_1
                              replace hx101_2 := (HB.out.cell (World.block_lt_of_cell? w _ hx101_2)).trans hx101_2
                              replace hx101_3 := (HB.out.cell (World.block_lt_of_cell? w _ hx101_3)).trans hx101_3
                              replace p101 := eq_true p101
                              replace q101 := eq_true q101
                              try go_wp2_with (first | ((with_reducible refine gate_dst (N := 4) rfl ?_); refine box_event ?hg (N := 4) ?hd (cs := #[.string (⟨#[]⟩ : ByteArray), .int .i64 0, .int .i64 0, .int .i64 0]) (t := 53) ?hr ?_; (case hd => rfl); (case hg => rfl); (case hr => first | (go_simp; done) | (go_simp; rfl)); intro gb102 hg w30 hbox hb; have n0_ := Aside0.mk (below_step (by repeat (first | (with_reducible first | exact HB.out | apply below_alloc | apply pw_below_drewN | apply below_drew1) | exact HB.out)) hb); have n1_ := Aside0.mk (hbox); have n2_ := Aside0.mk ((by rw [hg]; exact (below_size (by repeat (first | (with_reducible first | exact HB.out | apply below_alloc | apply pw_below_drewN | apply below_drew1) | exact HB.out))) : w.heap.size ≤ gb102)); have n3_ := Aside0.mk ((by rw [hg]; exact (below_size (by repeat (first | (with_reducible first | exact HB.out | apply below_alloc | apply pw_below_drewN | apply below_drew1) | exact HB.out))) : w.heap.size ≤ gb102)); clear HB; have HB := n0_; have BK102 := n1_; have GW102 := n2_; have GE102 := n3_; clear n0_ n1_ n2_ n3_; clear hb hbox hg; have hcz31_0 : w30.cell? ⟨gb102, 0, none⟩ = some (.string (⟨#[]⟩ : ByteArray)) := (blk_cell BK102.out 0).trans rfl; have hcz31_1 : w30.cell? ⟨gb102, 1, none⟩ = some (.int .i64 0) := (blk_cell BK102.out 1).trans rfl; have hcz31_2 : w30.cell? ⟨gb102, 2, none⟩ = some (.int .i64 0) := (blk_cell BK102.out 2).trans rfl; have hcz31_3 : w30.cell? ⟨gb102, 3, none⟩ = some (.int .i64 0) := (blk_cell BK102.out 3).trans rfl; have hfz31_0 := blk_frozen BK102.out 0; have hfz31_1 := blk_frozen BK102.out 1; have hfz31_2 := blk_frozen BK102.out 2; have hfz31_3 := blk_frozen BK102.out 3))
                              have n0_ : Aside0 (((((w30.setCell ⟨gb102, 0, none⟩ (.string ((rd_T53 l0 x7_1).f0))).setCell ⟨gb102, 1, none⟩ (.int .i64 ((rd_T53 l0 x7_1).f1))).setCell ⟨gb102, 2, none⟩ (.int .i64 ((rd_T53 l0 x7_1).f2))).setCell ⟨gb102, 3, none⟩ (.int .i64 ((rd_T53 l0 x7_1).f3))).heap[gb102]? = some (.cells #[.string ((rd_T53 l0 x7_1).f0), .int .i64 ((rd_T53 l0 x7_1).f1), .int .i64 ((rd_T53 l0 x7_1).f2), .int .i64 ((rd_T53 l0 x7_1).f3)] 53 (0, 0))) := ⟨by (with_reducible repeat (first | refine blk_drewN ?_ _ | refine blk_drew ?_ | refine blk_alloc ?_ _)); refine blk_put (cs := #[.string ((rd_T53 l0 x7_1).f0), .int .i64 ((rd_T53 l0 x7_1).f1), .int .i64 ((rd_T53 l0 x7_1).f2), .int .i64 0]) ?_ 3 _ rfl; (with_reducible repeat (first | refine blk_drewN ?_ _ | refine blk_drew ?_ | refine blk_alloc ?_ _)); refine blk_put (cs := #[.string ((rd_T53 l0 x7_1).f0), .int .i64 ((rd_T53 l0 x7_1).f1), .int .i64 0, .int .i64 0]) ?_ 2 _ rfl; (with_reducible repeat (first | refine blk_drewN ?_ _ | refine blk_drew ?_ | refine blk_alloc ?_ _)); refine blk_put (cs := #[.string ((rd_T53 l0 x7_1).f0), .int .i64 0, .int .i64 0, .int .i64 0]) ?_ 1 _ rfl; (with_reducible repeat (first | refine blk_drewN ?_ _ | refine blk_drew ?_ | refine blk_alloc ?_ _)); refine blk_put (cs := #[.string (⟨#[]⟩ : ByteArray), .int .i64 0, .int .i64 0, .int .i64 0]) ?_ 0 _ rfl; (with_reducible repeat (first | refine blk_drewN ?_ _ | refine blk_drew ?_ | refine blk_alloc ?_ _)); exact BK102.out⟩
                              have n1_ : Aside0 (Below w.heap.size w ((((w30.setCell ⟨gb102, 0, none⟩ (.string ((rd_T53 l0 x7_1).f0))).setCell ⟨gb102, 1, none⟩ (.int .i64 ((rd_T53 l0 x7_1).f1))).setCell ⟨gb102, 2, none⟩ (.int .i64 ((rd_T53 l0 x7_1).f2))).setCell ⟨gb102, 3, none⟩ (.int .i64 ((rd_T53 l0 x7_1).f3)))) := ⟨by repeat (first | (with_reducible first | exact HB.out | apply below_alloc | apply pw_below_drewN | apply below_drew1 | refine below_set ?_ GE102.out) | exact HB.out)⟩
                              (try clear BK102)
                              (try clear HB)
                              generalize ((((w30.setCell ⟨gb102, 0, none⟩ (.string ((rd_T53 l0 x7_1).f0))).setCell ⟨gb102, 1, none⟩ (.int .i64 ((rd_T53 l0 x7_1).f1))).setCell ⟨gb102, 2, none⟩ (.int .i64 ((rd_T53 l0 x7_1).f2))).setCell ⟨gb102, 3, none⟩ (.int .i64 ((rd_T53 l0 x7_1).f3))) = w32 at n0_ n1_ ⊢
                              have BK102 := n0_
                              have HB := n1_
                              clear n0_ n1_
                              have p104 : 0 ≤ ((ji8) : Int) := of_decide_eq_true (by first | (with_reducible assumption) | assumption)
                              have q104 : (ji8) < (l0.length : Int) := of_decide_eq_true (by first | (with_reducible assumption) | assumption)
                              obtain ⟨ad104, e104, hx104_0, hx104_1, hx104_2, hx104_3⟩ := at_T53 HR0.out (ji8) p104 q104
                              have hw104_3 := hx104_3
                              have hw104_2 := hx104_2
                              have hw104_1 := hx104_1
                              have hw104_0 := hx104_0
                              obtain rfl : ad101 = ad104 := (by injection e104)
                              replace hx104_0 := (HB.out.cell (World.block_lt_of_cell? w _ hx104_0)).trans hx104_0
                              replace hx104_1 := (HB.out.cell (World.block_lt_of_cell? w _ hx104_1)).trans hx104_1
                              replace hx104_2 := (HB.out.cell (World.block_lt_of_cell? w _ hx104_2)).trans hx104_2
                              replace hx104_3 := (HB.out.cell (World.block_lt_of_cell? w _ hx104_3)).trans hx104_3
                              replace p104 := eq_true p104
                              replace q104 := eq_true q104
                              have hS_ := (show (fun w' => w'.cell? ⟨gb102, 0, none⟩ = some (.string ((rd_T53 l0 x7_1).f0)) ∧ w'.cell? ⟨gb102, 1, none⟩ = some (.int .i64 ((rd_T53 l0 x7_1).f1)) ∧ w'.cell? ⟨gb102, 2, none⟩ = some (.int .i64 ((rd_T53 l0 x7_1).f2)) ∧ w'.cell? ⟨gb102, 3, none⟩ = some (.int .i64 ((rd_T53 l0 x7_1).f3)) ∧ w'.cell? (ad101.add (((ji8)).toNat * 4)) = some (.string ((rd_T53 l0 (ji8)).f0)) ∧ w'.cell? ⟨(ad101.add (((ji8)).toNat * 4)).block, (ad101.add (((ji8)).toNat * 4)).off + 1, none⟩ = some (.int .i64 ((rd_T53 l0 (ji8)).f1)) ∧ w'.cell? ⟨(ad101.add (((ji8)).toNat * 4)).block, (ad101.add (((ji8)).toNat * 4)).off + 2, none⟩ = some (.int .i64 ((rd_T53 l0 (ji8)).f2)) ∧ w'.cell? ⟨(ad101.add (((ji8)).toNat * 4)).block, (ad101.add (((ji8)).toNat * 4)).off + 3, none⟩ = some (.int .i64 ((rd_T53 l0 (ji8)).f3))) (w32) from ⟨(blk_cell BK102.out 0).trans rfl, (blk_cell BK102.out 1).trans rfl, (blk_cell BK102.out 2).trans rfl, (blk_cell BK102.out 3).trans rfl, ((HB.out.cell (World.block_lt_of_cell? w _ hw104_0)).trans hw104_0), ((HB.out.cell (World.block_lt_of_cell? w _ hw104_1)).trans hw104_1), ((HB.out.cell (World.block_lt_of_cell? w _ hw104_2)).trans hw104_2), ((HB.out.cell (World.block_lt_of_cell? w _ hw104_3)).trans hw104_3)⟩)
                              obtain ⟨hS0_, hS1_, hS2_, hS3_, hS4_, hS5_, hS6_, hS7_⟩ := hS_
                              go_quiet ((first | (go_at_call 37; exact Calls.quiet_of ((spec_l7Id.calls k1 ((rd_T53 l0 x7_1).f0) true _ A5.out).mono fun _ _ h => ⟨h.1, h.2.out⟩)) | (go_at_call 38; exact Calls.quiet_of ((spec_l1CmpText.calls k1 ((rd_T53 l0 (ji8)).f0) ((rd_T53 l0 x7_1).f0) t105 _ A11.out).mono fun _ _ h => ⟨h.1, h.2.out⟩)) | (go_at_call 39; exact Calls.quiet_of ((spec_l2Public.calls k1 ((rd_T53 l0 x7_1).f1) true _ A17.out).mono fun _ _ h => ⟨h.1, h.2.out⟩))))
                              clear hS0_ hS1_ hS2_ hS3_ hS4_ hS5_ hS6_ hS7_
                              have n0_ := Aside0.mk (blk_drewN BK102.out nq)
                              have n1_ := Aside0.mk (pw_below_drewN HB.out nq)
                              clear BK102
                              clear HB
                              have BK102 := n0_
                              have HB := n1_
                              clear n0_ n1_
                              replace hx104_0 : (World.drewN w32 nq).cell? _ = _ := hx104_0
                              replace hx104_1 : (World.drewN w32 nq).cell? _ = _ := hx104_1
                              replace hx104_2 : (World.drewN w32 nq).cell? _ = _ := hx104_2
                              replace hx104_3 : (World.drewN w32 nq).cell? _ = _ := hx104_3
                              generalize World.drewN w32 nq = w33 at BK102 HB hx104_0 hx104_1 hx104_2 hx104_3 ⊢
                              try go_wp2
                              go_ret
                              exact ⟨by first | rfl | (simp [errW_none, errW_some] <;> rfl) | (simp only [← hji8]; first | rfl | (simp [errW_none, errW_some] <;> rfl)) | (simp [*, errW_none, errW_some] <;> rfl), by repeat (first | (with_reducible first | exact HB.out | apply below_alloc | apply pw_below_drewN | apply below_drew1 | refine below_set ?_ GE102.out) | exact HB.out)⟩
                            · rw [if_neg c29] at H
                              have c29b0 : decide (((rd_T53 l0 x7_1).f3) < ((rd_T53 l0 x7_1).f2)) = false := decide_eq_false c29
                              clear c29
                              have H' := Aside0.mk H
                              clear H
                              have p101 : 0 ≤ (x7_1 : Int) := of_decide_eq_true (by first | (with_reducible assumption) | assumption)
                              have q101 : x7_1 < (l0.length : Int) := of_decide_eq_true (by first | (with_reducible assumption) | assumption)
                              obtain ⟨ad101, e101, hx101_0, hx101_1, hx101_2, hx101_3⟩ := at_T53 HR0.out x7_1 p101 q101
                              cases e101
                              replace hx101_0 := (HB.out.cell (World.block_lt_of_cell? w _ hx101_0)).trans hx101_0
                              replace hx101_1 := (HB.out.cell (World.block_lt_of_cell? w _ hx101_1)).trans hx101_1
                              replace hx101_2 := (HB.out.cell (World.block_lt_of_cell? w _ hx101_2)).trans hx101_2
                              replace hx101_3 := (HB.out.cell (World.block_lt_of_cell? w _ hx101_3)).trans hx101_3
                              replace p101 := eq_true p101
                              replace q101 := eq_true q101
                              try go_wp2_with (first | ((with_reducible refine gate_dst (N := 4) rfl ?_); refine box_event ?hg (N := 4) ?hd (cs := #[.string (⟨#[]⟩ : ByteArray), .int .i64 0, .int .i64 0, .int .i64 0]) (t := 53) ?hr ?_; (case hd => rfl); (case hg => rfl); (case hr => first | (go_simp; done) | (go_simp; rfl)); intro gb102 hg w34 hbox hb; have n0_ := Aside0.mk (below_step (by repeat (first | (with_reducible first | exact HB.out | apply below_alloc | apply pw_below_drewN | apply below_drew1) | exact HB.out)) hb); have n1_ := Aside0.mk (hbox); have n2_ := Aside0.mk ((by rw [hg]; exact (below_size (by repeat (first | (with_reducible first | exact HB.out | apply below_alloc | apply pw_below_drewN | apply below_drew1) | exact HB.out))) : w.heap.size ≤ gb102)); have n3_ := Aside0.mk ((by rw [hg]; exact (below_size (by repeat (first | (with_reducible first | exact HB.out | apply below_alloc | apply pw_below_drewN | apply below_drew1) | exact HB.out))) : w.heap.size ≤ gb102)); clear HB; have HB := n0_; have BK102 := n1_; have GW102 := n2_; have GE102 := n3_; clear n0_ n1_ n2_ n3_; clear hb hbox hg; have hcz35_0 : w34.cell? ⟨gb102, 0, none⟩ = some (.string (⟨#[]⟩ : ByteArray)) := (blk_cell BK102.out 0).trans rfl; have hcz35_1 : w34.cell? ⟨gb102, 1, none⟩ = some (.int .i64 0) := (blk_cell BK102.out 1).trans rfl; have hcz35_2 : w34.cell? ⟨gb102, 2, none⟩ = some (.int .i64 0) := (blk_cell BK102.out 2).trans rfl; have hcz35_3 : w34.cell? ⟨gb102, 3, none⟩ = some (.int .i64 0) := (blk_cell BK102.out 3).trans rfl; have hfz35_0 := blk_frozen BK102.out 0; have hfz35_1 := blk_frozen BK102.out 1; have hfz35_2 := blk_frozen BK102.out 2; have hfz35_3 := blk_frozen BK102.out 3))
                              have n0_ : Aside0 (((((w34.setCell ⟨gb102, 0, none⟩ (.string ((rd_T53 l0 x7_1).f0))).setCell ⟨gb102, 1, none⟩ (.int .i64 ((rd_T53 l0 x7_1).f1))).setCell ⟨gb102, 2, none⟩ (.int .i64 ((rd_T53 l0 x7_1).f2))).setCell ⟨gb102, 3, none⟩ (.int .i64 ((rd_T53 l0 x7_1).f3))).heap[gb102]? = some (.cells #[.string ((rd_T53 l0 x7_1).f0), .int .i64 ((rd_T53 l0 x7_1).f1), .int .i64 ((rd_T53 l0 x7_1).f2), .int .i64 ((rd_T53 l0 x7_1).f3)] 53 (0, 0))) := ⟨by (with_reducible repeat (first | refine blk_drewN ?_ _ | refine blk_drew ?_ | refine blk_alloc ?_ _)); refine blk_put (cs := #[.string ((rd_T53 l0 x7_1).f0), .int .i64 ((rd_T53 l0 x7_1).f1), .int .i64 ((rd_T53 l0 x7_1).f2), .int .i64 0]) ?_ 3 _ rfl; (with_reducible repeat (first | refine blk_drewN ?_ _ | refine blk_drew ?_ | refine blk_alloc ?_ _)); refine blk_put (cs := #[.string ((rd_T53 l0 x7_1).f0), .int .i64 ((rd_T53 l0 x7_1).f1), .int .i64 0, .int .i64 0]) ?_ 2 _ rfl; (with_reducible repeat (first | refine blk_drewN ?_ _ | refine blk_drew ?_ | refine blk_alloc ?_ _)); refine blk_put (cs := #[.string ((rd_T53 l0 x7_1).f0), .int .i64 0, .int .i64 0, .int .i64 0]) ?_ 1 _ rfl; (with_reducible repeat (first | refine blk_drewN ?_ _ | refine blk_drew ?_ | refine blk_alloc ?_ _)); refine blk_put (cs := #[.string (⟨#[]⟩ : ByteArray), .int .i64 0, .int .i64 0, .int .i64 0]) ?_ 0 _ rfl; (with_reducible repeat (first | refine blk_drewN ?_ _ | refine blk_drew ?_ | refine blk_alloc ?_ _)); exact BK102.out⟩
                              have n1_ : Aside0 (Below w.heap.size w ((((w34.setCell ⟨gb102, 0, none⟩ (.string ((rd_T53 l0 x7_1).f0))).setCell ⟨gb102, 1, none⟩ (.int .i64 ((rd_T53 l0 x7_1).f1))).setCell ⟨gb102, 2, none⟩ (.int .i64 ((rd_T53 l0 x7_1).f2))).setCell ⟨gb102, 3, none⟩ (.int .i64 ((rd_T53 l0 x7_1).f3)))) := ⟨by repeat (first | (with_reducible first | exact HB.out | apply below_alloc | apply pw_below_drewN | apply below_drew1 | refine below_set ?_ GE102.out) | exact HB.out)⟩
                              (try clear BK102)
                              (try clear HB)
                              generalize ((((w34.setCell ⟨gb102, 0, none⟩ (.string ((rd_T53 l0 x7_1).f0))).setCell ⟨gb102, 1, none⟩ (.int .i64 ((rd_T53 l0 x7_1).f1))).setCell ⟨gb102, 2, none⟩ (.int .i64 ((rd_T53 l0 x7_1).f2))).setCell ⟨gb102, 3, none⟩ (.int .i64 ((rd_T53 l0 x7_1).f3))) = w36 at n0_ n1_ ⊢
                              have BK102 := n0_
                              have HB := n1_
                              clear n0_ n1_
                              have p104 : 0 ≤ ((ji8) : Int) := of_decide_eq_true (by first | (with_reducible assumption) | assumption)
                              have q104 : (ji8) < (l0.length : Int) := of_decide_eq_true (by first | (with_reducible assumption) | assumption)
                              obtain ⟨ad104, e104, hx104_0, hx104_1, hx104_2, hx104_3⟩ := at_T53 HR0.out (ji8) p104 q104
                              have hw104_3 := hx104_3
                              have hw104_2 := hx104_2
                              have hw104_1 := hx104_1
                              have hw104_0 := hx104_0
                              obtain rfl : ad101 = ad104 := (by injection e104)
                              replace hx104_0 := (HB.out.cell (World.block_lt_of_cell? w _ hx104_0)).trans hx104_0
                              replace hx104_1 := (HB.out.cell (World.block_lt_of_cell? w _ hx104_1)).trans hx104_1
                              replace hx104_2 := (HB.out.cell (World.block_lt_of_cell? w _ hx104_2)).trans hx104_2
                              replace hx104_3 := (HB.out.cell (World.block_lt_of_cell? w _ hx104_3)).trans hx104_3
                              replace p104 := eq_true p104
                              replace q104 := eq_true q104
                              have hS_ := (show (fun w' => w'.cell? ⟨gb102, 0, none⟩ = some (.string ((rd_T53 l0 x7_1).f0)) ∧ w'.cell? ⟨gb102, 1, none⟩ = some (.int .i64 ((rd_T53 l0 x7_1).f1)) ∧ w'.cell? ⟨gb102, 2, none⟩ = some (.int .i64 ((rd_T53 l0 x7_1).f2)) ∧ w'.cell? ⟨gb102, 3, none⟩ = some (.int .i64 ((rd_T53 l0 x7_1).f3)) ∧ w'.cell? (ad101.add (((ji8)).toNat * 4)) = some (.string ((rd_T53 l0 (ji8)).f0)) ∧ w'.cell? ⟨(ad101.add (((ji8)).toNat * 4)).block, (ad101.add (((ji8)).toNat * 4)).off + 1, none⟩ = some (.int .i64 ((rd_T53 l0 (ji8)).f1)) ∧ w'.cell? ⟨(ad101.add (((ji8)).toNat * 4)).block, (ad101.add (((ji8)).toNat * 4)).off + 2, none⟩ = some (.int .i64 ((rd_T53 l0 (ji8)).f2)) ∧ w'.cell? ⟨(ad101.add (((ji8)).toNat * 4)).block, (ad101.add (((ji8)).toNat * 4)).off + 3, none⟩ = some (.int .i64 ((rd_T53 l0 (ji8)).f3))) (w36) from ⟨(blk_cell BK102.out 0).trans rfl, (blk_cell BK102.out 1).trans rfl, (blk_cell BK102.out 2).trans rfl, (blk_cell BK102.out 3).trans rfl, ((HB.out.cell (World.block_lt_of_cell? w _ hw104_0)).trans hw104_0), ((HB.out.cell (World.block_lt_of_cell? w _ hw104_1)).trans hw104_1), ((HB.out.cell (World.block_lt_of_cell? w _ hw104_2)).trans hw104_2), ((HB.out.cell (World.block_lt_of_cell? w _ hw104_3)).trans hw104_3)⟩)
                              obtain ⟨hS0_, hS1_, hS2_, hS3_, hS4_, hS5_, hS6_, hS7_⟩ := hS_
                              go_quiet ((first | (go_at_call 37; exact Calls.quiet_of ((spec_l7Id.calls k1 ((rd_T53 l0 x7_1).f0) true _ A5.out).mono fun _ _ h => ⟨h.1, h.2.out⟩)) | (go_at_call 38; exact Calls.quiet_of ((spec_l1CmpText.calls k1 ((rd_T53 l0 (ji8)).f0) ((rd_T53 l0 x7_1).f0) t105 _ A11.out).mono fun _ _ h => ⟨h.1, h.2.out⟩)) | (go_at_call 39; exact Calls.quiet_of ((spec_l2Public.calls k1 ((rd_T53 l0 x7_1).f1) true _ A17.out).mono fun _ _ h => ⟨h.1, h.2.out⟩))))
                              clear hS0_ hS1_ hS2_ hS3_ hS4_ hS5_ hS6_ hS7_
                              have n0_ := Aside0.mk (blk_drewN BK102.out nq)
                              have n1_ := Aside0.mk (pw_below_drewN HB.out nq)
                              clear BK102
                              clear HB
                              have BK102 := n0_
                              have HB := n1_
                              clear n0_ n1_
                              replace hx104_0 : (World.drewN w36 nq).cell? _ = _ := hx104_0
                              replace hx104_1 : (World.drewN w36 nq).cell? _ = _ := hx104_1
                              replace hx104_2 : (World.drewN w36 nq).cell? _ = _ := hx104_2
                              replace hx104_3 : (World.drewN w36 nq).cell? _ = _ := hx104_3
                              generalize World.drewN w36 nq = w37 at BK102 HB hx104_0 hx104_1 hx104_2 hx104_3 ⊢
                              try go_wp2
                              go_roundg k1
                              case measure => have := HK1.out; omega
                              case rel => exact ⟨(wrap64 (x7_1 + 1)), (by first | rfl | (simp; done) | (simp [*]; done)), H', ⟨by have := HK1.out; omega⟩, ⟨by repeat (first | (with_reducible first | exact HB.out | apply below_alloc | apply pw_below_drewN | apply below_drew1 | refine below_set ?_ GE102.out) | exact HB.out)⟩⟩
                      · replace c18 := Bool.eq_false_iff.mpr c18
                        subst c18
                        have H1 : (some false) = some r := by rw [if_neg (show ¬ (false = true) by decide)] at H; exact H
                        clear H
                        have H := H1
                        clear H1
                        obtain rfl := Option.some.inj H
                        have p101 : 0 ≤ (x7_1 : Int) := of_decide_eq_true (by first | (with_reducible assumption) | assumption)
                        have q101 : x7_1 < (l0.length : Int) := of_decide_eq_true (by first | (with_reducible assumption) | assumption)
                        obtain ⟨ad101, e101, hx101_0, hx101_1, hx101_2, hx101_3⟩ := at_T53 HR0.out x7_1 p101 q101
                        cases e101
                        replace hx101_0 := (HB.out.cell (World.block_lt_of_cell? w _ hx101_0)).trans hx101_0
                        replace hx101_1 := (HB.out.cell (World.block_lt_of_cell? w _ hx101_1)).trans hx101_1
                        replace hx101_2 := (HB.out.cell (World.block_lt_of_cell? w _ hx101_2)).trans hx101_2
                        replace hx101_3 := (HB.out.cell (World.block_lt_of_cell? w _ hx101_3)).trans hx101_3
                        replace p101 := eq_true p101
                        replace q101 := eq_true q101
                        try go_wp2_with (first | ((with_reducible refine gate_dst (N := 4) rfl ?_); refine box_event ?hg (N := 4) ?hd (cs := #[.string (⟨#[]⟩ : ByteArray), .int .i64 0, .int .i64 0, .int .i64 0]) (t := 53) ?hr ?_; (case hd => rfl); (case hg => rfl); (case hr => first | (go_simp; done) | (go_simp; rfl)); intro gb102 hg w38 hbox hb; have n0_ := Aside0.mk (below_step (by repeat (first | (with_reducible first | exact HB.out | apply below_alloc | apply pw_below_drewN | apply below_drew1) | exact HB.out)) hb); have n1_ := Aside0.mk (hbox); have n2_ := Aside0.mk ((by rw [hg]; exact (below_size (by repeat (first | (with_reducible first | exact HB.out | apply below_alloc | apply pw_below_drewN | apply below_drew1) | exact HB.out))) : w.heap.size ≤ gb102)); have n3_ := Aside0.mk ((by rw [hg]; exact (below_size (by repeat (first | (with_reducible first | exact HB.out | apply below_alloc | apply pw_below_drewN | apply below_drew1) | exact HB.out))) : w.heap.size ≤ gb102)); clear HB; have HB := n0_; have BK102 := n1_; have GW102 := n2_; have GE102 := n3_; clear n0_ n1_ n2_ n3_; clear hb hbox hg; have hcz39_0 : w38.cell? ⟨gb102, 0, none⟩ = some (.string (⟨#[]⟩ : ByteArray)) := (blk_cell BK102.out 0).trans rfl; have hcz39_1 : w38.cell? ⟨gb102, 1, none⟩ = some (.int .i64 0) := (blk_cell BK102.out 1).trans rfl; have hcz39_2 : w38.cell? ⟨gb102, 2, none⟩ = some (.int .i64 0) := (blk_cell BK102.out 2).trans rfl; have hcz39_3 : w38.cell? ⟨gb102, 3, none⟩ = some (.int .i64 0) := (blk_cell BK102.out 3).trans rfl; have hfz39_0 := blk_frozen BK102.out 0; have hfz39_1 := blk_frozen BK102.out 1; have hfz39_2 := blk_frozen BK102.out 2; have hfz39_3 := blk_frozen BK102.out 3))
                        have n0_ : Aside0 (((((w38.setCell ⟨gb102, 0, none⟩ (.string ((rd_T53 l0 x7_1).f0))).setCell ⟨gb102, 1, none⟩ (.int .i64 ((rd_T53 l0 x7_1).f1))).setCell ⟨gb102, 2, none⟩ (.int .i64 ((rd_T53 l0 x7_1).f2))).setCell ⟨gb102, 3, none⟩ (.int .i64 ((rd_T53 l0 x7_1).f3))).heap[gb102]? = some (.cells #[.string ((rd_T53 l0 x7_1).f0), .int .i64 ((rd_T53 l0 x7_1).f1), .int .i64 ((rd_T53 l0 x7_1).f2), .int .i64 ((rd_T53 l0 x7_1).f3)] 53 (0, 0))) := ⟨by (with_reducible repeat (first | refine blk_drewN ?_ _ | refine blk_drew ?_ | refine blk_alloc ?_ _)); refine blk_put (cs := #[.string ((rd_T53 l0 x7_1).f0), .int .i64 ((rd_T53 l0 x7_1).f1), .int .i64 ((rd_T53 l0 x7_1).f2), .int .i64 0]) ?_ 3 _ rfl; (with_reducible repeat (first | refine blk_drewN ?_ _ | refine blk_drew ?_ | refine blk_alloc ?_ _)); refine blk_put (cs := #[.string ((rd_T53 l0 x7_1).f0), .int .i64 ((rd_T53 l0 x7_1).f1), .int .i64 0, .int .i64 0]) ?_ 2 _ rfl; (with_reducible repeat (first | refine blk_drewN ?_ _ | refine blk_drew ?_ | refine blk_alloc ?_ _)); refine blk_put (cs := #[.string ((rd_T53 l0 x7_1).f0), .int .i64 0, .int .i64 0, .int .i64 0]) ?_ 1 _ rfl; (with_reducible repeat (first | refine blk_drewN ?_ _ | refine blk_drew ?_ | refine blk_alloc ?_ _)); refine blk_put (cs := #[.string (⟨#[]⟩ : ByteArray), .int .i64 0, .int .i64 0, .int .i64 0]) ?_ 0 _ rfl; (with_reducible repeat (first | refine blk_drewN ?_ _ | refine blk_drew ?_ | refine blk_alloc ?_ _)); exact BK102.out⟩
                        have n1_ : Aside0 (Below w.heap.size w ((((w38.setCell ⟨gb102, 0, none⟩ (.string ((rd_T53 l0 x7_1).f0))).setCell ⟨gb102, 1, none⟩ (.int .i64 ((rd_T53 l0 x7_1).f1))).setCell ⟨gb102, 2, none⟩ (.int .i64 ((rd_T53 l0 x7_1).f2))).setCell ⟨gb102, 3, none⟩ (.int .i64 ((rd_T53 l0 x7_1).f3)))) := ⟨by repeat (first | (with_reducible first | exact HB.out | apply below_alloc | apply pw_below_drewN | apply below_drew1 | refine below_set ?_ GE102.out) | exact HB.out)⟩
                        (try clear BK102)
                        (try clear HB)
                        generalize ((((w38.setCell ⟨gb102, 0, none⟩ (.string ((rd_T53 l0 x7_1).f0))).setCell ⟨gb102, 1, none⟩ (.int .i64 ((rd_T53 l0 x7_1).f1))).setCell ⟨gb102, 2, none⟩ (.int .i64 ((rd_T53 l0 x7_1).f2))).setCell ⟨gb102, 3, none⟩ (.int .i64 ((rd_T53 l0 x7_1).f3))) = w40 at n0_ n1_ ⊢
                        have BK102 := n0_
                        have HB := n1_
                        clear n0_ n1_
                        have p104 : 0 ≤ ((ji8) : Int) := of_decide_eq_true (by first | (with_reducible assumption) | assumption)
                        have q104 : (ji8) < (l0.length : Int) := of_decide_eq_true (by first | (with_reducible assumption) | assumption)
                        obtain ⟨ad104, e104, hx104_0, hx104_1, hx104_2, hx104_3⟩ := at_T53 HR0.out (ji8) p104 q104
                        have hw104_3 := hx104_3
                        have hw104_2 := hx104_2
                        have hw104_1 := hx104_1
                        have hw104_0 := hx104_0
                        obtain rfl : ad101 = ad104 := (by injection e104)
                        replace hx104_0 := (HB.out.cell (World.block_lt_of_cell? w _ hx104_0)).trans hx104_0
                        replace hx104_1 := (HB.out.cell (World.block_lt_of_cell? w _ hx104_1)).trans hx104_1
                        replace hx104_2 := (HB.out.cell (World.block_lt_of_cell? w _ hx104_2)).trans hx104_2
                        replace hx104_3 := (HB.out.cell (World.block_lt_of_cell? w _ hx104_3)).trans hx104_3
                        replace p104 := eq_true p104
                        replace q104 := eq_true q104
                        have hS_ := (show (fun w' => w'.cell? ⟨gb102, 0, none⟩ = some (.string ((rd_T53 l0 x7_1).f0)) ∧ w'.cell? ⟨gb102, 1, none⟩ = some (.int .i64 ((rd_T53 l0 x7_1).f1)) ∧ w'.cell? ⟨gb102, 2, none⟩ = some (.int .i64 ((rd_T53 l0 x7_1).f2)) ∧ w'.cell? ⟨gb102, 3, none⟩ = some (.int .i64 ((rd_T53 l0 x7_1).f3)) ∧ w'.cell? (ad101.add (((ji8)).toNat * 4)) = some (.string ((rd_T53 l0 (ji8)).f0)) ∧ w'.cell? ⟨(ad101.add (((ji8)).toNat * 4)).block, (ad101.add (((ji8)).toNat * 4)).off + 1, none⟩ = some (.int .i64 ((rd_T53 l0 (ji8)).f1)) ∧ w'.cell? ⟨(ad101.add (((ji8)).toNat * 4)).block, (ad101.add (((ji8)).toNat * 4)).off + 2, none⟩ = some (.int .i64 ((rd_T53 l0 (ji8)).f2)) ∧ w'.cell? ⟨(ad101.add (((ji8)).toNat * 4)).block, (ad101.add (((ji8)).toNat * 4)).off + 3, none⟩ = some (.int .i64 ((rd_T53 l0 (ji8)).f3))) (w40) from ⟨(blk_cell BK102.out 0).trans rfl, (blk_cell BK102.out 1).trans rfl, (blk_cell BK102.out 2).trans rfl, (blk_cell BK102.out 3).trans rfl, ((HB.out.cell (World.block_lt_of_cell? w _ hw104_0)).trans hw104_0), ((HB.out.cell (World.block_lt_of_cell? w _ hw104_1)).trans hw104_1), ((HB.out.cell (World.block_lt_of_cell? w _ hw104_2)).trans hw104_2), ((HB.out.cell (World.block_lt_of_cell? w _ hw104_3)).trans hw104_3)⟩)
                        obtain ⟨hS0_, hS1_, hS2_, hS3_, hS4_, hS5_, hS6_, hS7_⟩ := hS_
                        go_quiet ((first | (go_at_call 37; exact Calls.quiet_of ((spec_l7Id.calls k1 ((rd_T53 l0 x7_1).f0) true _ A5.out).mono fun _ _ h => ⟨h.1, h.2.out⟩)) | (go_at_call 38; exact Calls.quiet_of ((spec_l1CmpText.calls k1 ((rd_T53 l0 (ji8)).f0) ((rd_T53 l0 x7_1).f0) t105 _ A11.out).mono fun _ _ h => ⟨h.1, h.2.out⟩)) | (go_at_call 39; exact Calls.quiet_of ((spec_l2Public.calls k1 ((rd_T53 l0 x7_1).f1) false _ A17.out).mono fun _ _ h => ⟨h.1, h.2.out⟩))))
                        clear hS0_ hS1_ hS2_ hS3_ hS4_ hS5_ hS6_ hS7_
                        have n0_ := Aside0.mk (blk_drewN BK102.out nq)
                        have n1_ := Aside0.mk (pw_below_drewN HB.out nq)
                        clear BK102
                        clear HB
                        have BK102 := n0_
                        have HB := n1_
                        clear n0_ n1_
                        replace hx104_0 : (World.drewN w40 nq).cell? _ = _ := hx104_0
                        replace hx104_1 : (World.drewN w40 nq).cell? _ = _ := hx104_1
                        replace hx104_2 : (World.drewN w40 nq).cell? _ = _ := hx104_2
                        replace hx104_3 : (World.drewN w40 nq).cell? _ = _ := hx104_3
                        generalize World.drewN w40 nq = w41 at BK102 HB hx104_0 hx104_1 hx104_2 hx104_3 ⊢
                        try go_wp2
                        go_ret
                        exact ⟨by first | rfl | (simp [errW_none, errW_some] <;> rfl) | (simp only [← hji8]; first | rfl | (simp [errW_none, errW_some] <;> rfl)) | (simp [*, errW_none, errW_some] <;> rfl), by repeat (first | (with_reducible first | exact HB.out | apply below_alloc | apply pw_below_drewN | apply below_drew1 | refine below_set ?_ GE102.out) | exact HB.out)⟩
                  · rw [if_neg c10] at H
                    exact absurd H (by simp)
                · rw [if_neg c9] at H
                  exact absurd H (by simp)
              · rw [if_neg c7] at H
                have c7b0 : decide (0 < x7_1) = false := decide_eq_false c7
                clear c7
                replace H := Option.bind_eq_some_iff.mp H
                obtain ⟨t107, A420, H⟩ := H
                replace H : (if t107 = true then (if ((rd_T53 l0 x7_1).f2) < 0 then (some false) else (if ((rd_T53 l0 x7_1).f3) > 100000000000 then (some false) else (if ((rd_T53 l0 x7_1).f2) > ((rd_T53 l0 x7_1).f3) then (some false) else (spec_GoodRing.l0 k1 l0 l0 (l0.length : Int) (wrap64 (x7_1 + 1)))))) else (some false)) = some r := H
                have A42 := Aside0.mk A420
                clear A420
                by_cases c43 : t107 = true
                · subst c43
                  have H1 : (if ((rd_T53 l0 x7_1).f2) < 0 then (some false) else (if ((rd_T53 l0 x7_1).f3) > 100000000000 then (some false) else (if ((rd_T53 l0 x7_1).f2) > ((rd_T53 l0 x7_1).f3) then (some false) else (spec_GoodRing.l0 k1 l0 l0 (l0.length : Int) (wrap64 (x7_1 + 1)))))) = some r := by rw [if_pos rfl] at H; exact H
                  clear H
                  have H := H1
                  clear H1
                  by_cases c44 : ((rd_T53 l0 x7_1).f2) < 0
                  · rw [if_pos c44] at H
                    have c44b0 : decide (((rd_T53 l0 x7_1).f2) < 0) = true := decide_eq_true c44
                    clear c44
                    obtain rfl := Option.some.inj H
                    have p101 : 0 ≤ (x7_1 : Int) := of_decide_eq_true (by first | (with_reducible assumption) | assumption)
                    have q101 : x7_1 < (l0.length : Int) := of_decide_eq_true (by first | (with_reducible assumption) | assumption)
                    obtain ⟨ad101, e101, hx101_0, hx101_1, hx101_2, hx101_3⟩ := at_T53 HR0.out x7_1 p101 q101
                    cases e101
                    replace hx101_0 := (HB.out.cell (World.block_lt_of_cell? w _ hx101_0)).trans hx101_0
                    replace hx101_1 := (HB.out.cell (World.block_lt_of_cell? w _ hx101_1)).trans hx101_1
                    replace hx101_2 := (HB.out.cell (World.block_lt_of_cell? w _ hx101_2)).trans hx101_2
                    replace hx101_3 := (HB.out.cell (World.block_lt_of_cell? w _ hx101_3)).trans hx101_3
                    replace p101 := eq_true p101
                    replace q101 := eq_true q101
                    try go_wp2_with (first | ((with_reducible refine gate_dst (N := 4) rfl ?_); refine box_event ?hg (N := 4) ?hd (cs := #[.string (⟨#[]⟩ : ByteArray), .int .i64 0, .int .i64 0, .int .i64 0]) (t := 53) ?hr ?_; (case hd => rfl); (case hg => rfl); (case hr => first | (go_simp; done) | (go_simp; rfl)); intro gb102 hg w45 hbox hb; have n0_ := Aside0.mk (below_step (by repeat (first | (with_reducible first | exact HB.out | apply below_alloc | apply pw_below_drewN | apply below_drew1) | exact HB.out)) hb); have n1_ := Aside0.mk (hbox); have n2_ := Aside0.mk ((by rw [hg]; exact (below_size (by repeat (first | (with_reducible first | exact HB.out | apply below_alloc | apply pw_below_drewN | apply below_drew1) | exact HB.out))) : w.heap.size ≤ gb102)); have n3_ := Aside0.mk ((by rw [hg]; exact (below_size (by repeat (first | (with_reducible first | exact HB.out | apply below_alloc | apply pw_below_drewN | apply below_drew1) | exact HB.out))) : w.heap.size ≤ gb102)); clear HB; have HB := n0_; have BK102 := n1_; have GW102 := n2_; have GE102 := n3_; clear n0_ n1_ n2_ n3_; clear hb hbox hg; have hcz46_0 : w45.cell? ⟨gb102, 0, none⟩ = some (.string (⟨#[]⟩ : ByteArray)) := (blk_cell BK102.out 0).trans rfl; have hcz46_1 : w45.cell? ⟨gb102, 1, none⟩ = some (.int .i64 0) := (blk_cell BK102.out 1).trans rfl; have hcz46_2 : w45.cell? ⟨gb102, 2, none⟩ = some (.int .i64 0) := (blk_cell BK102.out 2).trans rfl; have hcz46_3 : w45.cell? ⟨gb102, 3, none⟩ = some (.int .i64 0) := (blk_cell BK102.out 3).trans rfl; have hfz46_0 := blk_frozen BK102.out 0; have hfz46_1 := blk_frozen BK102.out 1; have hfz46_2 := blk_frozen BK102.out 2; have hfz46_3 := blk_frozen BK102.out 3))
                    have n0_ : Aside0 (((((w45.setCell ⟨gb102, 0, none⟩ (.string ((rd_T53 l0 x7_1).f0))).setCell ⟨gb102, 1, none⟩ (.int .i64 ((rd_T53 l0 x7_1).f1))).setCell ⟨gb102, 2, none⟩ (.int .i64 ((rd_T53 l0 x7_1).f2))).setCell ⟨gb102, 3, none⟩ (.int .i64 ((rd_T53 l0 x7_1).f3))).heap[gb102]? = some (.cells #[.string ((rd_T53 l0 x7_1).f0), .int .i64 ((rd_T53 l0 x7_1).f1), .int .i64 ((rd_T53 l0 x7_1).f2), .int .i64 ((rd_T53 l0 x7_1).f3)] 53 (0, 0))) := ⟨by (with_reducible repeat (first | refine blk_drewN ?_ _ | refine blk_drew ?_ | refine blk_alloc ?_ _)); refine blk_put (cs := #[.string ((rd_T53 l0 x7_1).f0), .int .i64 ((rd_T53 l0 x7_1).f1), .int .i64 ((rd_T53 l0 x7_1).f2), .int .i64 0]) ?_ 3 _ rfl; (with_reducible repeat (first | refine blk_drewN ?_ _ | refine blk_drew ?_ | refine blk_alloc ?_ _)); refine blk_put (cs := #[.string ((rd_T53 l0 x7_1).f0), .int .i64 ((rd_T53 l0 x7_1).f1), .int .i64 0, .int .i64 0]) ?_ 2 _ rfl; (with_reducible repeat (first | refine blk_drewN ?_ _ | refine blk_drew ?_ | refine blk_alloc ?_ _)); refine blk_put (cs := #[.string ((rd_T53 l0 x7_1).f0), .int .i64 0, .int .i64 0, .int .i64 0]) ?_ 1 _ rfl; (with_reducible repeat (first | refine blk_drewN ?_ _ | refine blk_drew ?_ | refine blk_alloc ?_ _)); refine blk_put (cs := #[.string (⟨#[]⟩ : ByteArray), .int .i64 0, .int .i64 0, .int .i64 0]) ?_ 0 _ rfl; (with_reducible repeat (first | refine blk_drewN ?_ _ | refine blk_drew ?_ | refine blk_alloc ?_ _)); exact BK102.out⟩
                    have n1_ : Aside0 (Below w.heap.size w ((((w45.setCell ⟨gb102, 0, none⟩ (.string ((rd_T53 l0 x7_1).f0))).setCell ⟨gb102, 1, none⟩ (.int .i64 ((rd_T53 l0 x7_1).f1))).setCell ⟨gb102, 2, none⟩ (.int .i64 ((rd_T53 l0 x7_1).f2))).setCell ⟨gb102, 3, none⟩ (.int .i64 ((rd_T53 l0 x7_1).f3)))) := ⟨by repeat (first | (with_reducible first | exact HB.out | apply below_alloc | apply pw_below_drewN | apply below_drew1 | refine below_set ?_ GE102.out) | exact HB.out)⟩
                    (try clear BK102)
                    (try clear HB)
                    generalize ((((w45.setCell ⟨gb102, 0, none⟩ (.string ((rd_T53 l0 x7_1).f0))).setCell ⟨gb102, 1, none⟩ (.int .i64 ((rd_T53 l0 x7_1).f1))).setCell ⟨gb102, 2, none⟩ (.int .i64 ((rd_T53 l0 x7_1).f2))).setCell ⟨gb102, 3, none⟩ (.int .i64 ((rd_T53 l0 x7_1).f3))) = w47 at n0_ n1_ ⊢
                    have BK102 := n0_
                    have HB := n1_
                    clear n0_ n1_
                    have hS_ := (show (fun w' => w'.cell? ⟨gb102, 0, none⟩ = some (.string ((rd_T53 l0 x7_1).f0)) ∧ w'.cell? ⟨gb102, 1, none⟩ = some (.int .i64 ((rd_T53 l0 x7_1).f1)) ∧ w'.cell? ⟨gb102, 2, none⟩ = some (.int .i64 ((rd_T53 l0 x7_1).f2)) ∧ w'.cell? ⟨gb102, 3, none⟩ = some (.int .i64 ((rd_T53 l0 x7_1).f3))) (w47) from ⟨(blk_cell BK102.out 0).trans rfl, (blk_cell BK102.out 1).trans rfl, (blk_cell BK102.out 2).trans rfl, (blk_cell BK102.out 3).trans rfl⟩)
                    obtain ⟨hS0_, hS1_, hS2_, hS3_⟩ := hS_
                    go_quiet ((first | (go_at_call 37; exact Calls.quiet_of ((spec_l7Id.calls k1 ((rd_T53 l0 x7_1).f0) true _ A5.out).mono fun _ _ h => ⟨h.1, h.2.out⟩)) | (go_at_call 39; exact Calls.quiet_of ((spec_l2Public.calls k1 ((rd_T53 l0 x7_1).f1) true _ A42.out).mono fun _ _ h => ⟨h.1, h.2.out⟩))))
                    clear hS0_ hS1_ hS2_ hS3_
                    have n0_ := Aside0.mk (blk_drewN BK102.out nq)
                    have n1_ := Aside0.mk (pw_below_drewN HB.out nq)
                    clear BK102
                    clear HB
                    have BK102 := n0_
                    have HB := n1_
                    clear n0_ n1_
                    generalize World.drewN w47 nq = w48 at BK102 HB ⊢
                    try go_wp2
                    go_ret
                    exact ⟨by first | rfl | (simp [errW_none, errW_some] <;> rfl) | (simp [*, errW_none, errW_some] <;> rfl), by repeat (first | (with_reducible first | exact HB.out | apply below_alloc | apply pw_below_drewN | apply below_drew1 | refine below_set ?_ GE102.out) | exact HB.out)⟩
                  · rw [if_neg c44] at H
                    have c44b0 : decide (((rd_T53 l0 x7_1).f2) < 0) = false := decide_eq_false c44
                    clear c44
                    by_cases c49 : ((rd_T53 l0 x7_1).f3) > 100000000000
                    · rw [if_pos c49] at H
                      have c49b0 : decide (100000000000 < ((rd_T53 l0 x7_1).f3)) = true := decide_eq_true c49
                      clear c49
                      obtain rfl := Option.some.inj H
                      have p101 : 0 ≤ (x7_1 : Int) := of_decide_eq_true (by first | (with_reducible assumption) | assumption)
                      have q101 : x7_1 < (l0.length : Int) := of_decide_eq_true (by first | (with_reducible assumption) | assumption)
                      obtain ⟨ad101, e101, hx101_0, hx101_1, hx101_2, hx101_3⟩ := at_T53 HR0.out x7_1 p101 q101
                      cases e101
                      replace hx101_0 := (HB.out.cell (World.block_lt_of_cell? w _ hx101_0)).trans hx101_0
                      replace hx101_1 := (HB.out.cell (World.block_lt_of_cell? w _ hx101_1)).trans hx101_1
                      replace hx101_2 := (HB.out.cell (World.block_lt_of_cell? w _ hx101_2)).trans hx101_2
                      replace hx101_3 := (HB.out.cell (World.block_lt_of_cell? w _ hx101_3)).trans hx101_3
                      replace p101 := eq_true p101
                      replace q101 := eq_true q101
                      try go_wp2_with (first | ((with_reducible refine gate_dst (N := 4) rfl ?_); refine box_event ?hg (N := 4) ?hd (cs := #[.string (⟨#[]⟩ : ByteArray), .int .i64 0, .int .i64 0, .int .i64 0]) (t := 53) ?hr ?_; (case hd => rfl); (case hg => rfl); (case hr => first | (go_simp; done) | (go_simp; rfl)); intro gb102 hg w50 hbox hb; have n0_ := Aside0.mk (below_step (by repeat (first | (with_reducible first | exact HB.out | apply below_alloc | apply pw_below_drewN | apply below_drew1) | exact HB.out)) hb); have n1_ := Aside0.mk (hbox); have n2_ := Aside0.mk ((by rw [hg]; exact (below_size (by repeat (first | (with_reducible first | exact HB.out | apply below_alloc | apply pw_below_drewN | apply below_drew1) | exact HB.out))) : w.heap.size ≤ gb102)); have n3_ := Aside0.mk ((by rw [hg]; exact (below_size (by repeat (first | (with_reducible first | exact HB.out | apply below_alloc | apply pw_below_drewN | apply below_drew1) | exact HB.out))) : w.heap.size ≤ gb102)); clear HB; have HB := n0_; have BK102 := n1_; have GW102 := n2_; have GE102 := n3_; clear n0_ n1_ n2_ n3_; clear hb hbox hg; have hcz51_0 : w50.cell? ⟨gb102, 0, none⟩ = some (.string (⟨#[]⟩ : ByteArray)) := (blk_cell BK102.out 0).trans rfl; have hcz51_1 : w50.cell? ⟨gb102, 1, none⟩ = some (.int .i64 0) := (blk_cell BK102.out 1).trans rfl; have hcz51_2 : w50.cell? ⟨gb102, 2, none⟩ = some (.int .i64 0) := (blk_cell BK102.out 2).trans rfl; have hcz51_3 : w50.cell? ⟨gb102, 3, none⟩ = some (.int .i64 0) := (blk_cell BK102.out 3).trans rfl; have hfz51_0 := blk_frozen BK102.out 0; have hfz51_1 := blk_frozen BK102.out 1; have hfz51_2 := blk_frozen BK102.out 2; have hfz51_3 := blk_frozen BK102.out 3))
                      have n0_ : Aside0 (((((w50.setCell ⟨gb102, 0, none⟩ (.string ((rd_T53 l0 x7_1).f0))).setCell ⟨gb102, 1, none⟩ (.int .i64 ((rd_T53 l0 x7_1).f1))).setCell ⟨gb102, 2, none⟩ (.int .i64 ((rd_T53 l0 x7_1).f2))).setCell ⟨gb102, 3, none⟩ (.int .i64 ((rd_T53 l0 x7_1).f3))).heap[gb102]? = some (.cells #[.string ((rd_T53 l0 x7_1).f0), .int .i64 ((rd_T53 l0 x7_1).f1), .int .i64 ((rd_T53 l0 x7_1).f2), .int .i64 ((rd_T53 l0 x7_1).f3)] 53 (0, 0))) := ⟨by (with_reducible repeat (first | refine blk_drewN ?_ _ | refine blk_drew ?_ | refine blk_alloc ?_ _)); refine blk_put (cs := #[.string ((rd_T53 l0 x7_1).f0), .int .i64 ((rd_T53 l0 x7_1).f1), .int .i64 ((rd_T53 l0 x7_1).f2), .int .i64 0]) ?_ 3 _ rfl; (with_reducible repeat (first | refine blk_drewN ?_ _ | refine blk_drew ?_ | refine blk_alloc ?_ _)); refine blk_put (cs := #[.string ((rd_T53 l0 x7_1).f0), .int .i64 ((rd_T53 l0 x7_1).f1), .int .i64 0, .int .i64 0]) ?_ 2 _ rfl; (with_reducible repeat (first | refine blk_drewN ?_ _ | refine blk_drew ?_ | refine blk_alloc ?_ _)); refine blk_put (cs := #[.string ((rd_T53 l0 x7_1).f0), .int .i64 0, .int .i64 0, .int .i64 0]) ?_ 1 _ rfl; (with_reducible repeat (first | refine blk_drewN ?_ _ | refine blk_drew ?_ | refine blk_alloc ?_ _)); refine blk_put (cs := #[.string (⟨#[]⟩ : ByteArray), .int .i64 0, .int .i64 0, .int .i64 0]) ?_ 0 _ rfl; (with_reducible repeat (first | refine blk_drewN ?_ _ | refine blk_drew ?_ | refine blk_alloc ?_ _)); exact BK102.out⟩
                      have n1_ : Aside0 (Below w.heap.size w ((((w50.setCell ⟨gb102, 0, none⟩ (.string ((rd_T53 l0 x7_1).f0))).setCell ⟨gb102, 1, none⟩ (.int .i64 ((rd_T53 l0 x7_1).f1))).setCell ⟨gb102, 2, none⟩ (.int .i64 ((rd_T53 l0 x7_1).f2))).setCell ⟨gb102, 3, none⟩ (.int .i64 ((rd_T53 l0 x7_1).f3)))) := ⟨by repeat (first | (with_reducible first | exact HB.out | apply below_alloc | apply pw_below_drewN | apply below_drew1 | refine below_set ?_ GE102.out) | exact HB.out)⟩
                      (try clear BK102)
                      (try clear HB)
                      generalize ((((w50.setCell ⟨gb102, 0, none⟩ (.string ((rd_T53 l0 x7_1).f0))).setCell ⟨gb102, 1, none⟩ (.int .i64 ((rd_T53 l0 x7_1).f1))).setCell ⟨gb102, 2, none⟩ (.int .i64 ((rd_T53 l0 x7_1).f2))).setCell ⟨gb102, 3, none⟩ (.int .i64 ((rd_T53 l0 x7_1).f3))) = w52 at n0_ n1_ ⊢
                      have BK102 := n0_
                      have HB := n1_
                      clear n0_ n1_
                      have hS_ := (show (fun w' => w'.cell? ⟨gb102, 0, none⟩ = some (.string ((rd_T53 l0 x7_1).f0)) ∧ w'.cell? ⟨gb102, 1, none⟩ = some (.int .i64 ((rd_T53 l0 x7_1).f1)) ∧ w'.cell? ⟨gb102, 2, none⟩ = some (.int .i64 ((rd_T53 l0 x7_1).f2)) ∧ w'.cell? ⟨gb102, 3, none⟩ = some (.int .i64 ((rd_T53 l0 x7_1).f3))) (w52) from ⟨(blk_cell BK102.out 0).trans rfl, (blk_cell BK102.out 1).trans rfl, (blk_cell BK102.out 2).trans rfl, (blk_cell BK102.out 3).trans rfl⟩)
                      obtain ⟨hS0_, hS1_, hS2_, hS3_⟩ := hS_
                      go_quiet ((first | (go_at_call 37; exact Calls.quiet_of ((spec_l7Id.calls k1 ((rd_T53 l0 x7_1).f0) true _ A5.out).mono fun _ _ h => ⟨h.1, h.2.out⟩)) | (go_at_call 39; exact Calls.quiet_of ((spec_l2Public.calls k1 ((rd_T53 l0 x7_1).f1) true _ A42.out).mono fun _ _ h => ⟨h.1, h.2.out⟩))))
                      clear hS0_ hS1_ hS2_ hS3_
                      have n0_ := Aside0.mk (blk_drewN BK102.out nq)
                      have n1_ := Aside0.mk (pw_below_drewN HB.out nq)
                      clear BK102
                      clear HB
                      have BK102 := n0_
                      have HB := n1_
                      clear n0_ n1_
                      generalize World.drewN w52 nq = w53 at BK102 HB ⊢
                      try go_wp2
                      go_ret
                      exact ⟨by first | rfl | (simp [errW_none, errW_some] <;> rfl) | (simp [*, errW_none, errW_some] <;> rfl), by repeat (first | (with_reducible first | exact HB.out | apply below_alloc | apply pw_below_drewN | apply below_drew1 | refine below_set ?_ GE102.out) | exact HB.out)⟩
                    · rw [if_neg c49] at H
                      have c49b0 : decide (100000000000 < ((rd_T53 l0 x7_1).f3)) = false := decide_eq_false c49
                      clear c49
                      by_cases c54 : ((rd_T53 l0 x7_1).f2) > ((rd_T53 l0 x7_1).f3)
                      · rw [if_pos c54] at H
                        have c54b0 : decide (((rd_T53 l0 x7_1).f3) < ((rd_T53 l0 x7_1).f2)) = true := decide_eq_true c54
                        clear c54
                        obtain rfl := Option.some.inj H
                        have p101 : 0 ≤ (x7_1 : Int) := of_decide_eq_true (by first | (with_reducible assumption) | assumption)
                        have q101 : x7_1 < (l0.length : Int) := of_decide_eq_true (by first | (with_reducible assumption) | assumption)
                        obtain ⟨ad101, e101, hx101_0, hx101_1, hx101_2, hx101_3⟩ := at_T53 HR0.out x7_1 p101 q101
                        cases e101
                        replace hx101_0 := (HB.out.cell (World.block_lt_of_cell? w _ hx101_0)).trans hx101_0
                        replace hx101_1 := (HB.out.cell (World.block_lt_of_cell? w _ hx101_1)).trans hx101_1
                        replace hx101_2 := (HB.out.cell (World.block_lt_of_cell? w _ hx101_2)).trans hx101_2
                        replace hx101_3 := (HB.out.cell (World.block_lt_of_cell? w _ hx101_3)).trans hx101_3
                        replace p101 := eq_true p101
                        replace q101 := eq_true q101
                        try go_wp2_with (first | ((with_reducible refine gate_dst (N := 4) rfl ?_); refine box_event ?hg (N := 4) ?hd (cs := #[.string (⟨#[]⟩ : ByteArray), .int .i64 0, .int .i64 0, .int .i64 0]) (t := 53) ?hr ?_; (case hd => rfl); (case hg => rfl); (case hr => first | (go_simp; done) | (go_simp; rfl)); intro gb102 hg w55 hbox hb; have n0_ := Aside0.mk (below_step (by repeat (first | (with_reducible first | exact HB.out | apply below_alloc | apply pw_below_drewN | apply below_drew1) | exact HB.out)) hb); have n1_ := Aside0.mk (hbox); have n2_ := Aside0.mk ((by rw [hg]; exact (below_size (by repeat (first | (with_reducible first | exact HB.out | apply below_alloc | apply pw_below_drewN | apply below_drew1) | exact HB.out))) : w.heap.size ≤ gb102)); have n3_ := Aside0.mk ((by rw [hg]; exact (below_size (by repeat (first | (with_reducible first | exact HB.out | apply below_alloc | apply pw_below_drewN | apply below_drew1) | exact HB.out))) : w.heap.size ≤ gb102)); clear HB; have HB := n0_; have BK102 := n1_; have GW102 := n2_; have GE102 := n3_; clear n0_ n1_ n2_ n3_; clear hb hbox hg; have hcz56_0 : w55.cell? ⟨gb102, 0, none⟩ = some (.string (⟨#[]⟩ : ByteArray)) := (blk_cell BK102.out 0).trans rfl; have hcz56_1 : w55.cell? ⟨gb102, 1, none⟩ = some (.int .i64 0) := (blk_cell BK102.out 1).trans rfl; have hcz56_2 : w55.cell? ⟨gb102, 2, none⟩ = some (.int .i64 0) := (blk_cell BK102.out 2).trans rfl; have hcz56_3 : w55.cell? ⟨gb102, 3, none⟩ = some (.int .i64 0) := (blk_cell BK102.out 3).trans rfl; have hfz56_0 := blk_frozen BK102.out 0; have hfz56_1 := blk_frozen BK102.out 1; have hfz56_2 := blk_frozen BK102.out 2; have hfz56_3 := blk_frozen BK102.out 3))
                        have n0_ : Aside0 (((((w55.setCell ⟨gb102, 0, none⟩ (.string ((rd_T53 l0 x7_1).f0))).setCell ⟨gb102, 1, none⟩ (.int .i64 ((rd_T53 l0 x7_1).f1))).setCell ⟨gb102, 2, none⟩ (.int .i64 ((rd_T53 l0 x7_1).f2))).setCell ⟨gb102, 3, none⟩ (.int .i64 ((rd_T53 l0 x7_1).f3))).heap[gb102]? = some (.cells #[.string ((rd_T53 l0 x7_1).f0), .int .i64 ((rd_T53 l0 x7_1).f1), .int .i64 ((rd_T53 l0 x7_1).f2), .int .i64 ((rd_T53 l0 x7_1).f3)] 53 (0, 0))) := ⟨by (with_reducible repeat (first | refine blk_drewN ?_ _ | refine blk_drew ?_ | refine blk_alloc ?_ _)); refine blk_put (cs := #[.string ((rd_T53 l0 x7_1).f0), .int .i64 ((rd_T53 l0 x7_1).f1), .int .i64 ((rd_T53 l0 x7_1).f2), .int .i64 0]) ?_ 3 _ rfl; (with_reducible repeat (first | refine blk_drewN ?_ _ | refine blk_drew ?_ | refine blk_alloc ?_ _)); refine blk_put (cs := #[.string ((rd_T53 l0 x7_1).f0), .int .i64 ((rd_T53 l0 x7_1).f1), .int .i64 0, .int .i64 0]) ?_ 2 _ rfl; (with_reducible repeat (first | refine blk_drewN ?_ _ | refine blk_drew ?_ | refine blk_alloc ?_ _)); refine blk_put (cs := #[.string ((rd_T53 l0 x7_1).f0), .int .i64 0, .int .i64 0, .int .i64 0]) ?_ 1 _ rfl; (with_reducible repeat (first | refine blk_drewN ?_ _ | refine blk_drew ?_ | refine blk_alloc ?_ _)); refine blk_put (cs := #[.string (⟨#[]⟩ : ByteArray), .int .i64 0, .int .i64 0, .int .i64 0]) ?_ 0 _ rfl; (with_reducible repeat (first | refine blk_drewN ?_ _ | refine blk_drew ?_ | refine blk_alloc ?_ _)); exact BK102.out⟩
                        have n1_ : Aside0 (Below w.heap.size w ((((w55.setCell ⟨gb102, 0, none⟩ (.string ((rd_T53 l0 x7_1).f0))).setCell ⟨gb102, 1, none⟩ (.int .i64 ((rd_T53 l0 x7_1).f1))).setCell ⟨gb102, 2, none⟩ (.int .i64 ((rd_T53 l0 x7_1).f2))).setCell ⟨gb102, 3, none⟩ (.int .i64 ((rd_T53 l0 x7_1).f3)))) := ⟨by repeat (first | (with_reducible first | exact HB.out | apply below_alloc | apply pw_below_drewN | apply below_drew1 | refine below_set ?_ GE102.out) | exact HB.out)⟩
                        (try clear BK102)
                        (try clear HB)
                        generalize ((((w55.setCell ⟨gb102, 0, none⟩ (.string ((rd_T53 l0 x7_1).f0))).setCell ⟨gb102, 1, none⟩ (.int .i64 ((rd_T53 l0 x7_1).f1))).setCell ⟨gb102, 2, none⟩ (.int .i64 ((rd_T53 l0 x7_1).f2))).setCell ⟨gb102, 3, none⟩ (.int .i64 ((rd_T53 l0 x7_1).f3))) = w57 at n0_ n1_ ⊢
                        have BK102 := n0_
                        have HB := n1_
                        clear n0_ n1_
                        have hS_ := (show (fun w' => w'.cell? ⟨gb102, 0, none⟩ = some (.string ((rd_T53 l0 x7_1).f0)) ∧ w'.cell? ⟨gb102, 1, none⟩ = some (.int .i64 ((rd_T53 l0 x7_1).f1)) ∧ w'.cell? ⟨gb102, 2, none⟩ = some (.int .i64 ((rd_T53 l0 x7_1).f2)) ∧ w'.cell? ⟨gb102, 3, none⟩ = some (.int .i64 ((rd_T53 l0 x7_1).f3))) (w57) from ⟨(blk_cell BK102.out 0).trans rfl, (blk_cell BK102.out 1).trans rfl, (blk_cell BK102.out 2).trans rfl, (blk_cell BK102.out 3).trans rfl⟩)
                        obtain ⟨hS0_, hS1_, hS2_, hS3_⟩ := hS_
                        go_quiet ((first | (go_at_call 37; exact Calls.quiet_of ((spec_l7Id.calls k1 ((rd_T53 l0 x7_1).f0) true _ A5.out).mono fun _ _ h => ⟨h.1, h.2.out⟩)) | (go_at_call 39; exact Calls.quiet_of ((spec_l2Public.calls k1 ((rd_T53 l0 x7_1).f1) true _ A42.out).mono fun _ _ h => ⟨h.1, h.2.out⟩))))
                        clear hS0_ hS1_ hS2_ hS3_
                        have n0_ := Aside0.mk (blk_drewN BK102.out nq)
                        have n1_ := Aside0.mk (pw_below_drewN HB.out nq)
                        clear BK102
                        clear HB
                        have BK102 := n0_
                        have HB := n1_
                        clear n0_ n1_
                        generalize World.drewN w57 nq = w58 at BK102 HB ⊢
                        try go_wp2
                        go_ret
                        exact ⟨by first | rfl | (simp [errW_none, errW_some] <;> rfl) | (simp [*, errW_none, errW_some] <;> rfl), by repeat (first | (with_reducible first | exact HB.out | apply below_alloc | apply pw_below_drewN | apply below_drew1 | refine below_set ?_ GE102.out) | exact HB.out)⟩
                      · rw [if_neg c54] at H
                        have c54b0 : decide (((rd_T53 l0 x7_1).f3) < ((rd_T53 l0 x7_1).f2)) = false := decide_eq_false c54
                        clear c54
                        have H' := Aside0.mk H
                        clear H
                        have p101 : 0 ≤ (x7_1 : Int) := of_decide_eq_true (by first | (with_reducible assumption) | assumption)
                        have q101 : x7_1 < (l0.length : Int) := of_decide_eq_true (by first | (with_reducible assumption) | assumption)
                        obtain ⟨ad101, e101, hx101_0, hx101_1, hx101_2, hx101_3⟩ := at_T53 HR0.out x7_1 p101 q101
                        cases e101
                        replace hx101_0 := (HB.out.cell (World.block_lt_of_cell? w _ hx101_0)).trans hx101_0
                        replace hx101_1 := (HB.out.cell (World.block_lt_of_cell? w _ hx101_1)).trans hx101_1
                        replace hx101_2 := (HB.out.cell (World.block_lt_of_cell? w _ hx101_2)).trans hx101_2
                        replace hx101_3 := (HB.out.cell (World.block_lt_of_cell? w _ hx101_3)).trans hx101_3
                        replace p101 := eq_true p101
                        replace q101 := eq_true q101
                        try go_wp2_with (first | ((with_reducible refine gate_dst (N := 4) rfl ?_); refine box_event ?hg (N := 4) ?hd (cs := #[.string (⟨#[]⟩ : ByteArray), .int .i64 0, .int .i64 0, .int .i64 0]) (t := 53) ?hr ?_; (case hd => rfl); (case hg => rfl); (case hr => first | (go_simp; done) | (go_simp; rfl)); intro gb102 hg w59 hbox hb; have n0_ := Aside0.mk (below_step (by repeat (first | (with_reducible first | exact HB.out | apply below_alloc | apply pw_below_drewN | apply below_drew1) | exact HB.out)) hb); have n1_ := Aside0.mk (hbox); have n2_ := Aside0.mk ((by rw [hg]; exact (below_size (by repeat (first | (with_reducible first | exact HB.out | apply below_alloc | apply pw_below_drewN | apply below_drew1) | exact HB.out))) : w.heap.size ≤ gb102)); have n3_ := Aside0.mk ((by rw [hg]; exact (below_size (by repeat (first | (with_reducible first | exact HB.out | apply below_alloc | apply pw_below_drewN | apply below_drew1) | exact HB.out))) : w.heap.size ≤ gb102)); clear HB; have HB := n0_; have BK102 := n1_; have GW102 := n2_; have GE102 := n3_; clear n0_ n1_ n2_ n3_; clear hb hbox hg; have hcz60_0 : w59.cell? ⟨gb102, 0, none⟩ = some (.string (⟨#[]⟩ : ByteArray)) := (blk_cell BK102.out 0).trans rfl; have hcz60_1 : w59.cell? ⟨gb102, 1, none⟩ = some (.int .i64 0) := (blk_cell BK102.out 1).trans rfl; have hcz60_2 : w59.cell? ⟨gb102, 2, none⟩ = some (.int .i64 0) := (blk_cell BK102.out 2).trans rfl; have hcz60_3 : w59.cell? ⟨gb102, 3, none⟩ = some (.int .i64 0) := (blk_cell BK102.out 3).trans rfl; have hfz60_0 := blk_frozen BK102.out 0; have hfz60_1 := blk_frozen BK102.out 1; have hfz60_2 := blk_frozen BK102.out 2; have hfz60_3 := blk_frozen BK102.out 3))
                        have n0_ : Aside0 (((((w59.setCell ⟨gb102, 0, none⟩ (.string ((rd_T53 l0 x7_1).f0))).setCell ⟨gb102, 1, none⟩ (.int .i64 ((rd_T53 l0 x7_1).f1))).setCell ⟨gb102, 2, none⟩ (.int .i64 ((rd_T53 l0 x7_1).f2))).setCell ⟨gb102, 3, none⟩ (.int .i64 ((rd_T53 l0 x7_1).f3))).heap[gb102]? = some (.cells #[.string ((rd_T53 l0 x7_1).f0), .int .i64 ((rd_T53 l0 x7_1).f1), .int .i64 ((rd_T53 l0 x7_1).f2), .int .i64 ((rd_T53 l0 x7_1).f3)] 53 (0, 0))) := ⟨by (with_reducible repeat (first | refine blk_drewN ?_ _ | refine blk_drew ?_ | refine blk_alloc ?_ _)); refine blk_put (cs := #[.string ((rd_T53 l0 x7_1).f0), .int .i64 ((rd_T53 l0 x7_1).f1), .int .i64 ((rd_T53 l0 x7_1).f2), .int .i64 0]) ?_ 3 _ rfl; (with_reducible repeat (first | refine blk_drewN ?_ _ | refine blk_drew ?_ | refine blk_alloc ?_ _)); refine blk_put (cs := #[.string ((rd_T53 l0 x7_1).f0), .int .i64 ((rd_T53 l0 x7_1).f1), .int .i64 0, .int .i64 0]) ?_ 2 _ rfl; (with_reducible repeat (first | refine blk_drewN ?_ _ | refine blk_drew ?_ | refine blk_alloc ?_ _)); refine blk_put (cs := #[.string ((rd_T53 l0 x7_1).f0), .int .i64 0, .int .i64 0, .int .i64 0]) ?_ 1 _ rfl; (with_reducible repeat (first | refine blk_drewN ?_ _ | refine blk_drew ?_ | refine blk_alloc ?_ _)); refine blk_put (cs := #[.string (⟨#[]⟩ : ByteArray), .int .i64 0, .int .i64 0, .int .i64 0]) ?_ 0 _ rfl; (with_reducible repeat (first | refine blk_drewN ?_ _ | refine blk_drew ?_ | refine blk_alloc ?_ _)); exact BK102.out⟩
                        have n1_ : Aside0 (Below w.heap.size w ((((w59.setCell ⟨gb102, 0, none⟩ (.string ((rd_T53 l0 x7_1).f0))).setCell ⟨gb102, 1, none⟩ (.int .i64 ((rd_T53 l0 x7_1).f1))).setCell ⟨gb102, 2, none⟩ (.int .i64 ((rd_T53 l0 x7_1).f2))).setCell ⟨gb102, 3, none⟩ (.int .i64 ((rd_T53 l0 x7_1).f3)))) := ⟨by repeat (first | (with_reducible first | exact HB.out | apply below_alloc | apply pw_below_drewN | apply below_drew1 | refine below_set ?_ GE102.out) | exact HB.out)⟩
                        (try clear BK102)
                        (try clear HB)
                        generalize ((((w59.setCell ⟨gb102, 0, none⟩ (.string ((rd_T53 l0 x7_1).f0))).setCell ⟨gb102, 1, none⟩ (.int .i64 ((rd_T53 l0 x7_1).f1))).setCell ⟨gb102, 2, none⟩ (.int .i64 ((rd_T53 l0 x7_1).f2))).setCell ⟨gb102, 3, none⟩ (.int .i64 ((rd_T53 l0 x7_1).f3))) = w61 at n0_ n1_ ⊢
                        have BK102 := n0_
                        have HB := n1_
                        clear n0_ n1_
                        have hS_ := (show (fun w' => w'.cell? ⟨gb102, 0, none⟩ = some (.string ((rd_T53 l0 x7_1).f0)) ∧ w'.cell? ⟨gb102, 1, none⟩ = some (.int .i64 ((rd_T53 l0 x7_1).f1)) ∧ w'.cell? ⟨gb102, 2, none⟩ = some (.int .i64 ((rd_T53 l0 x7_1).f2)) ∧ w'.cell? ⟨gb102, 3, none⟩ = some (.int .i64 ((rd_T53 l0 x7_1).f3))) (w61) from ⟨(blk_cell BK102.out 0).trans rfl, (blk_cell BK102.out 1).trans rfl, (blk_cell BK102.out 2).trans rfl, (blk_cell BK102.out 3).trans rfl⟩)
                        obtain ⟨hS0_, hS1_, hS2_, hS3_⟩ := hS_
                        go_quiet ((first | (go_at_call 37; exact Calls.quiet_of ((spec_l7Id.calls k1 ((rd_T53 l0 x7_1).f0) true _ A5.out).mono fun _ _ h => ⟨h.1, h.2.out⟩)) | (go_at_call 39; exact Calls.quiet_of ((spec_l2Public.calls k1 ((rd_T53 l0 x7_1).f1) true _ A42.out).mono fun _ _ h => ⟨h.1, h.2.out⟩))))
                        clear hS0_ hS1_ hS2_ hS3_
                        have n0_ := Aside0.mk (blk_drewN BK102.out nq)
                        have n1_ := Aside0.mk (pw_below_drewN HB.out nq)
                        clear BK102
                        clear HB
                        have BK102 := n0_
                        have HB := n1_
                        clear n0_ n1_
                        generalize World.drewN w61 nq = w62 at BK102 HB ⊢
                        try go_wp2
                        go_roundg k1
                        case measure => have := HK1.out; omega
                        case rel => exact ⟨(wrap64 (x7_1 + 1)), (by first | rfl | (simp; done) | (simp [*]; done)), H', ⟨by have := HK1.out; omega⟩, ⟨by repeat (first | (with_reducible first | exact HB.out | apply below_alloc | apply pw_below_drewN | apply below_drew1 | refine below_set ?_ GE102.out) | exact HB.out)⟩⟩
                · replace c43 := Bool.eq_false_iff.mpr c43
                  subst c43
                  have H1 : (some false) = some r := by rw [if_neg (show ¬ (false = true) by decide)] at H; exact H
                  clear H
                  have H := H1
                  clear H1
                  obtain rfl := Option.some.inj H
                  have p101 : 0 ≤ (x7_1 : Int) := of_decide_eq_true (by first | (with_reducible assumption) | assumption)
                  have q101 : x7_1 < (l0.length : Int) := of_decide_eq_true (by first | (with_reducible assumption) | assumption)
                  obtain ⟨ad101, e101, hx101_0, hx101_1, hx101_2, hx101_3⟩ := at_T53 HR0.out x7_1 p101 q101
                  cases e101
                  replace hx101_0 := (HB.out.cell (World.block_lt_of_cell? w _ hx101_0)).trans hx101_0
                  replace hx101_1 := (HB.out.cell (World.block_lt_of_cell? w _ hx101_1)).trans hx101_1
                  replace hx101_2 := (HB.out.cell (World.block_lt_of_cell? w _ hx101_2)).trans hx101_2
                  replace hx101_3 := (HB.out.cell (World.block_lt_of_cell? w _ hx101_3)).trans hx101_3
                  replace p101 := eq_true p101
                  replace q101 := eq_true q101
                  try go_wp2_with (first | ((with_reducible refine gate_dst (N := 4) rfl ?_); refine box_event ?hg (N := 4) ?hd (cs := #[.string (⟨#[]⟩ : ByteArray), .int .i64 0, .int .i64 0, .int .i64 0]) (t := 53) ?hr ?_; (case hd => rfl); (case hg => rfl); (case hr => first | (go_simp; done) | (go_simp; rfl)); intro gb102 hg w63 hbox hb; have n0_ := Aside0.mk (below_step (by repeat (first | (with_reducible first | exact HB.out | apply below_alloc | apply pw_below_drewN | apply below_drew1) | exact HB.out)) hb); have n1_ := Aside0.mk (hbox); have n2_ := Aside0.mk ((by rw [hg]; exact (below_size (by repeat (first | (with_reducible first | exact HB.out | apply below_alloc | apply pw_below_drewN | apply below_drew1) | exact HB.out))) : w.heap.size ≤ gb102)); have n3_ := Aside0.mk ((by rw [hg]; exact (below_size (by repeat (first | (with_reducible first | exact HB.out | apply below_alloc | apply pw_below_drewN | apply below_drew1) | exact HB.out))) : w.heap.size ≤ gb102)); clear HB; have HB := n0_; have BK102 := n1_; have GW102 := n2_; have GE102 := n3_; clear n0_ n1_ n2_ n3_; clear hb hbox hg; have hcz64_0 : w63.cell? ⟨gb102, 0, none⟩ = some (.string (⟨#[]⟩ : ByteArray)) := (blk_cell BK102.out 0).trans rfl; have hcz64_1 : w63.cell? ⟨gb102, 1, none⟩ = some (.int .i64 0) := (blk_cell BK102.out 1).trans rfl; have hcz64_2 : w63.cell? ⟨gb102, 2, none⟩ = some (.int .i64 0) := (blk_cell BK102.out 2).trans rfl; have hcz64_3 : w63.cell? ⟨gb102, 3, none⟩ = some (.int .i64 0) := (blk_cell BK102.out 3).trans rfl; have hfz64_0 := blk_frozen BK102.out 0; have hfz64_1 := blk_frozen BK102.out 1; have hfz64_2 := blk_frozen BK102.out 2; have hfz64_3 := blk_frozen BK102.out 3))
                  have n0_ : Aside0 (((((w63.setCell ⟨gb102, 0, none⟩ (.string ((rd_T53 l0 x7_1).f0))).setCell ⟨gb102, 1, none⟩ (.int .i64 ((rd_T53 l0 x7_1).f1))).setCell ⟨gb102, 2, none⟩ (.int .i64 ((rd_T53 l0 x7_1).f2))).setCell ⟨gb102, 3, none⟩ (.int .i64 ((rd_T53 l0 x7_1).f3))).heap[gb102]? = some (.cells #[.string ((rd_T53 l0 x7_1).f0), .int .i64 ((rd_T53 l0 x7_1).f1), .int .i64 ((rd_T53 l0 x7_1).f2), .int .i64 ((rd_T53 l0 x7_1).f3)] 53 (0, 0))) := ⟨by (with_reducible repeat (first | refine blk_drewN ?_ _ | refine blk_drew ?_ | refine blk_alloc ?_ _)); refine blk_put (cs := #[.string ((rd_T53 l0 x7_1).f0), .int .i64 ((rd_T53 l0 x7_1).f1), .int .i64 ((rd_T53 l0 x7_1).f2), .int .i64 0]) ?_ 3 _ rfl; (with_reducible repeat (first | refine blk_drewN ?_ _ | refine blk_drew ?_ | refine blk_alloc ?_ _)); refine blk_put (cs := #[.string ((rd_T53 l0 x7_1).f0), .int .i64 ((rd_T53 l0 x7_1).f1), .int .i64 0, .int .i64 0]) ?_ 2 _ rfl; (with_reducible repeat (first | refine blk_drewN ?_ _ | refine blk_drew ?_ | refine blk_alloc ?_ _)); refine blk_put (cs := #[.string ((rd_T53 l0 x7_1).f0), .int .i64 0, .int .i64 0, .int .i64 0]) ?_ 1 _ rfl; (with_reducible repeat (first | refine blk_drewN ?_ _ | refine blk_drew ?_ | refine blk_alloc ?_ _)); refine blk_put (cs := #[.string (⟨#[]⟩ : ByteArray), .int .i64 0, .int .i64 0, .int .i64 0]) ?_ 0 _ rfl; (with_reducible repeat (first | refine blk_drewN ?_ _ | refine blk_drew ?_ | refine blk_alloc ?_ _)); exact BK102.out⟩
                  have n1_ : Aside0 (Below w.heap.size w ((((w63.setCell ⟨gb102, 0, none⟩ (.string ((rd_T53 l0 x7_1).f0))).setCell ⟨gb102, 1, none⟩ (.int .i64 ((rd_T53 l0 x7_1).f1))).setCell ⟨gb102, 2, none⟩ (.int .i64 ((rd_T53 l0 x7_1).f2))).setCell ⟨gb102, 3, none⟩ (.int .i64 ((rd_T53 l0 x7_1).f3)))) := ⟨by repeat (first | (with_reducible first | exact HB.out | apply below_alloc | apply pw_below_drewN | apply below_drew1 | refine below_set ?_ GE102.out) | exact HB.out)⟩
                  (try clear BK102)
                  (try clear HB)
                  generalize ((((w63.setCell ⟨gb102, 0, none⟩ (.string ((rd_T53 l0 x7_1).f0))).setCell ⟨gb102, 1, none⟩ (.int .i64 ((rd_T53 l0 x7_1).f1))).setCell ⟨gb102, 2, none⟩ (.int .i64 ((rd_T53 l0 x7_1).f2))).setCell ⟨gb102, 3, none⟩ (.int .i64 ((rd_T53 l0 x7_1).f3))) = w65 at n0_ n1_ ⊢
                  have BK102 := n0_
                  have HB := n1_
                  clear n0_ n1_
                  have hS_ := (show (fun w' => w'.cell? ⟨gb102, 0, none⟩ = some (.string ((rd_T53 l0 x7_1).f0)) ∧ w'.cell? ⟨gb102, 1, none⟩ = some (.int .i64 ((rd_T53 l0 x7_1).f1)) ∧ w'.cell? ⟨gb102, 2, none⟩ = some (.int .i64 ((rd_T53 l0 x7_1).f2)) ∧ w'.cell? ⟨gb102, 3, none⟩ = some (.int .i64 ((rd_T53 l0 x7_1).f3))) (w65) from ⟨(blk_cell BK102.out 0).trans rfl, (blk_cell BK102.out 1).trans rfl, (blk_cell BK102.out 2).trans rfl, (blk_cell BK102.out 3).trans rfl⟩)
                  obtain ⟨hS0_, hS1_, hS2_, hS3_⟩ := hS_
                  go_quiet ((first | (go_at_call 37; exact Calls.quiet_of ((spec_l7Id.calls k1 ((rd_T53 l0 x7_1).f0) true _ A5.out).mono fun _ _ h => ⟨h.1, h.2.out⟩)) | (go_at_call 39; exact Calls.quiet_of ((spec_l2Public.calls k1 ((rd_T53 l0 x7_1).f1) false _ A42.out).mono fun _ _ h => ⟨h.1, h.2.out⟩))))
                  clear hS0_ hS1_ hS2_ hS3_
                  have n0_ := Aside0.mk (blk_drewN BK102.out nq)
                  have n1_ := Aside0.mk (pw_below_drewN HB.out nq)
                  clear BK102
                  clear HB
                  have BK102 := n0_
                  have HB := n1_
                  clear n0_ n1_
                  generalize World.drewN w65 nq = w66 at BK102 HB ⊢
                  try go_wp2
                  go_ret
                  exact ⟨by first | rfl | (simp [errW_none, errW_some] <;> rfl) | (simp [*, errW_none, errW_some] <;> rfl), by repeat (first | (with_reducible first | exact HB.out | apply below_alloc | apply pw_below_drewN | apply below_drew1 | refine below_set ?_ GE102.out) | exact HB.out)⟩
            · replace c6 := Bool.eq_false_iff.mpr c6
              subst c6
              have H1 : (some false) = some r := by rw [if_neg (show ¬ (false = true) by decide)] at H; exact H
              clear H
              have H := H1
              clear H1
              obtain rfl := Option.some.inj H
              have p101 : 0 ≤ (x7_1 : Int) := of_decide_eq_true (by first | (with_reducible assumption) | assumption)
              have q101 : x7_1 < (l0.length : Int) := of_decide_eq_true (by first | (with_reducible assumption) | assumption)
              obtain ⟨ad101, e101, hx101_0, hx101_1, hx101_2, hx101_3⟩ := at_T53 HR0.out x7_1 p101 q101
              cases e101
              replace hx101_0 := (HB.out.cell (World.block_lt_of_cell? w _ hx101_0)).trans hx101_0
              replace hx101_1 := (HB.out.cell (World.block_lt_of_cell? w _ hx101_1)).trans hx101_1
              replace hx101_2 := (HB.out.cell (World.block_lt_of_cell? w _ hx101_2)).trans hx101_2
              replace hx101_3 := (HB.out.cell (World.block_lt_of_cell? w _ hx101_3)).trans hx101_3
              replace p101 := eq_true p101
              replace q101 := eq_true q101
              try go_wp2_with (first | ((with_reducible refine gate_dst (N := 4) rfl ?_); refine box_event ?hg (N := 4) ?hd (cs := #[.string (⟨#[]⟩ : ByteArray), .int .i64 0, .int .i64 0, .int .i64 0]) (t := 53) ?hr ?_; (case hd => rfl); (case hg => rfl); (case hr => first | (go_simp; done) | (go_simp; rfl)); intro gb102 hg w67 hbox hb; have n0_ := Aside0.mk (below_step (by repeat (first | (with_reducible first | exact HB.out | apply below_alloc | apply pw_below_drewN | apply below_drew1) | exact HB.out)) hb); have n1_ := Aside0.mk (hbox); have n2_ := Aside0.mk ((by rw [hg]; exact (below_size (by repeat (first | (with_reducible first | exact HB.out | apply below_alloc | apply pw_below_drewN | apply below_drew1) | exact HB.out))) : w.heap.size ≤ gb102)); have n3_ := Aside0.mk ((by rw [hg]; exact (below_size (by repeat (first | (with_reducible first | exact HB.out | apply below_alloc | apply pw_below_drewN | apply below_drew1) | exact HB.out))) : w.heap.size ≤ gb102)); clear HB; have HB := n0_; have BK102 := n1_; have GW102 := n2_; have GE102 := n3_; clear n0_ n1_ n2_ n3_; clear hb hbox hg; have hcz68_0 : w67.cell? ⟨gb102, 0, none⟩ = some (.string (⟨#[]⟩ : ByteArray)) := (blk_cell BK102.out 0).trans rfl; have hcz68_1 : w67.cell? ⟨gb102, 1, none⟩ = some (.int .i64 0) := (blk_cell BK102.out 1).trans rfl; have hcz68_2 : w67.cell? ⟨gb102, 2, none⟩ = some (.int .i64 0) := (blk_cell BK102.out 2).trans rfl; have hcz68_3 : w67.cell? ⟨gb102, 3, none⟩ = some (.int .i64 0) := (blk_cell BK102.out 3).trans rfl; have hfz68_0 := blk_frozen BK102.out 0; have hfz68_1 := blk_frozen BK102.out 1; have hfz68_2 := blk_frozen BK102.out 2; have hfz68_3 := blk_frozen BK102.out 3))
              have n0_ : Aside0 (((((w67.setCell ⟨gb102, 0, none⟩ (.string ((rd_T53 l0 x7_1).f0))).setCell ⟨gb102, 1, none⟩ (.int .i64 ((rd_T53 l0 x7_1).f1))).setCell ⟨gb102, 2, none⟩ (.int .i64 ((rd_T53 l0 x7_1).f2))).setCell ⟨gb102, 3, none⟩ (.int .i64 ((rd_T53 l0 x7_1).f3))).heap[gb102]? = some (.cells #[.string ((rd_T53 l0 x7_1).f0), .int .i64 ((rd_T53 l0 x7_1).f1), .int .i64 ((rd_T53 l0 x7_1).f2), .int .i64 ((rd_T53 l0 x7_1).f3)] 53 (0, 0))) := ⟨by (with_reducible repeat (first | refine blk_drewN ?_ _ | refine blk_drew ?_ | refine blk_alloc ?_ _)); refine blk_put (cs := #[.string ((rd_T53 l0 x7_1).f0), .int .i64 ((rd_T53 l0 x7_1).f1), .int .i64 ((rd_T53 l0 x7_1).f2), .int .i64 0]) ?_ 3 _ rfl; (with_reducible repeat (first | refine blk_drewN ?_ _ | refine blk_drew ?_ | refine blk_alloc ?_ _)); refine blk_put (cs := #[.string ((rd_T53 l0 x7_1).f0), .int .i64 ((rd_T53 l0 x7_1).f1), .int .i64 0, .int .i64 0]) ?_ 2 _ rfl; (with_reducible repeat (first | refine blk_drewN ?_ _ | refine blk_drew ?_ | refine blk_alloc ?_ _)); refine blk_put (cs := #[.string ((rd_T53 l0 x7_1).f0), .int .i64 0, .int .i64 0, .int .i64 0]) ?_ 1 _ rfl; (with_reducible repeat (first | refine blk_drewN ?_ _ | refine blk_drew ?_ | refine blk_alloc ?_ _)); refine blk_put (cs := #[.string (⟨#[]⟩ : ByteArray), .int .i64 0, .int .i64 0, .int .i64 0]) ?_ 0 _ rfl; (with_reducible repeat (first | refine blk_drewN ?_ _ | refine blk_drew ?_ | refine blk_alloc ?_ _)); exact BK102.out⟩
              have n1_ : Aside0 (Below w.heap.size w ((((w67.setCell ⟨gb102, 0, none⟩ (.string ((rd_T53 l0 x7_1).f0))).setCell ⟨gb102, 1, none⟩ (.int .i64 ((rd_T53 l0 x7_1).f1))).setCell ⟨gb102, 2, none⟩ (.int .i64 ((rd_T53 l0 x7_1).f2))).setCell ⟨gb102, 3, none⟩ (.int .i64 ((rd_T53 l0 x7_1).f3)))) := ⟨by repeat (first | (with_reducible first | exact HB.out | apply below_alloc | apply pw_below_drewN | apply below_drew1 | refine below_set ?_ GE102.out) | exact HB.out)⟩
              (try clear BK102)
              (try clear HB)
              generalize ((((w67.setCell ⟨gb102, 0, none⟩ (.string ((rd_T53 l0 x7_1).f0))).setCell ⟨gb102, 1, none⟩ (.int .i64 ((rd_T53 l0 x7_1).f1))).setCell ⟨gb102, 2, none⟩ (.int .i64 ((rd_T53 l0 x7_1).f2))).setCell ⟨gb102, 3, none⟩ (.int .i64 ((rd_T53 l0 x7_1).f3))) = w69 at n0_ n1_ ⊢
              have BK102 := n0_
              have HB := n1_
              clear n0_ n1_
              have hS_ := (show (fun w' => w'.cell? ⟨gb102, 0, none⟩ = some (.string ((rd_T53 l0 x7_1).f0)) ∧ w'.cell? ⟨gb102, 1, none⟩ = some (.int .i64 ((rd_T53 l0 x7_1).f1)) ∧ w'.cell? ⟨gb102, 2, none⟩ = some (.int .i64 ((rd_T53 l0 x7_1).f2)) ∧ w'.cell? ⟨gb102, 3, none⟩ = some (.int .i64 ((rd_T53 l0 x7_1).f3))) (w69) from ⟨(blk_cell BK102.out 0).trans rfl, (blk_cell BK102.out 1).trans rfl, (blk_cell BK102.out 2).trans rfl, (blk_cell BK102.out 3).trans rfl⟩)
              obtain ⟨hS0_, hS1_, hS2_, hS3_⟩ := hS_
              go_quiet ((first | (go_at_call 37; exact Calls.quiet_of ((spec_l7Id.calls k1 ((rd_T53 l0 x7_1).f0) false _ A5.out).mono fun _ _ h => ⟨h.1, h.2.out⟩))))
              clear hS0_ hS1_ hS2_ hS3_
              have n0_ := Aside0.mk (blk_drewN BK102.out nq)
              have n1_ := Aside0.mk (pw_below_drewN HB.out nq)
              clear BK102
              clear HB
              have BK102 := n0_
              have HB := n1_
              clear n0_ n1_
              generalize World.drewN w69 nq = w70 at BK102 HB ⊢
              try go_wp2
              go_ret
              exact ⟨by first | rfl | (simp [errW_none, errW_some] <;> rfl) | (simp [*, errW_none, errW_some] <;> rfl), by repeat (first | (with_reducible first | exact HB.out | apply below_alloc | apply pw_below_drewN | apply below_drew1 | refine below_set ?_ GE102.out) | exact HB.out)⟩
          · rw [if_neg c4] at H
            exact absurd H (by simp)
        · rw [if_neg c3] at H
          exact absurd H (by simp)
      · rw [if_neg c2] at H
        have c2b0 : decide (x7_1 < (l0.length : Int)) = false := decide_eq_false c2
        clear c2
        obtain rfl := Option.some.inj H
        go_wp2
        go_ret
        exact ⟨by first | rfl | (simp [errW_none, errW_some] <;> rfl) | (simp [*, errW_none, errW_some] <;> rfl), by repeat (first | (with_reducible first | exact HB.out | apply below_alloc | apply pw_below_drewN | apply below_drew1) | exact HB.out)⟩
end Go.Proofs.Ytakocdkcfjkmdaa.Pr
namespace Go.Proofs.Ytakocdkcfjkmdaa.Pr
open Go.RowKit Go.Proofs.YtakocdkcfjkmdaaW.PrintWords Go.Proofs.YtakocdkcfjkmdaaW.PrintLast Go.Proofs.YtakocdkcfjkmdaaW.PrintMore
attribute [local go_sem] max2_int min2_int max_two min_two max_three min_three max_four min_four
set_option linter.unusedVariables false
set_option linter.unusedSimpArgs false
def impl_yletter.f (a0 : Int) : Option (Bool) := if a0 ≥ 97 then (if a0 ≤ 122 then (some true) else (if a0 ≥ 65 then (some (decide (a0 ≤ 90))) else (some false))) else (if a0 ≥ 65 then (some (decide (a0 ≤ 90))) else (some false))
set_option maxHeartbeats 8000000 in
set_option maxRecDepth 100000 in
theorem impl_yletter.calls (a0 : Int) (r : Bool) (w : World) (h : impl_yletter.f a0 = some r) :
    Calls Try.prog 90 #[.int .u8 a0] w fun e w' => e = .returned (.bool r) ∧ Drawn0 w w' := by
  have H : (if a0 ≥ 97 then (if a0 ≤ 122 then (some true) else (if a0 ≥ 65 then (some (decide (a0 ≤ 90))) else (some false))) else (if a0 ≥ 65 then (some (decide (a0 ≤ 90))) else (some false))) = some r := h
  clear h
  by_cases c2 : a0 ≥ 97
  · rw [if_pos c2] at H
    have c2b0 : decide (97 ≤ a0) = true := decide_eq_true c2
    clear c2
    by_cases c3 : a0 ≤ 122
    · rw [if_pos c3] at H
      have c3b0 : decide (a0 ≤ 122) = true := decide_eq_true c3
      clear c3
      obtain rfl := Option.some.inj H
      go_enter Try.func90, Try.ntmps90
      go_wp2
      go_ret
      exact ⟨by first | rfl | (simp; done) | (simp [*]; done), by repeat (first | exact Drawn0.refl _ | apply Drawn0.step)⟩
    · rw [if_neg c3] at H
      have c3b0 : decide (a0 ≤ 122) = false := decide_eq_false c3
      clear c3
      by_cases c4 : a0 ≥ 65
      · rw [if_pos c4] at H
        have c4b0 : decide (65 ≤ a0) = true := decide_eq_true c4
        clear c4
        obtain rfl := Option.some.inj H
        go_enter Try.func90, Try.ntmps90
        go_wp2
        go_ret
        exact ⟨by first | rfl | (simp; done) | (simp [*]; done), by repeat (first | exact Drawn0.refl _ | apply Drawn0.step)⟩
      · rw [if_neg c4] at H
        have c4b0 : decide (65 ≤ a0) = false := decide_eq_false c4
        clear c4
        obtain rfl := Option.some.inj H
        go_enter Try.func90, Try.ntmps90
        go_wp2
        go_ret
        exact ⟨by first | rfl | (simp; done) | (simp [*]; done), by repeat (first | exact Drawn0.refl _ | apply Drawn0.step)⟩
  · rw [if_neg c2] at H
    have c2b0 : decide (97 ≤ a0) = false := decide_eq_false c2
    clear c2
    by_cases c5 : a0 ≥ 65
    · rw [if_pos c5] at H
      have c5b0 : decide (65 ≤ a0) = true := decide_eq_true c5
      clear c5
      obtain rfl := Option.some.inj H
      go_enter Try.func90, Try.ntmps90
      go_wp2
      go_ret
      exact ⟨by first | rfl | (simp; done) | (simp [*]; done), by repeat (first | exact Drawn0.refl _ | apply Drawn0.step)⟩
    · rw [if_neg c5] at H
      have c5b0 : decide (65 ≤ a0) = false := decide_eq_false c5
      clear c5
      obtain rfl := Option.some.inj H
      go_enter Try.func90, Try.ntmps90
      go_wp2
      go_ret
      exact ⟨by first | rfl | (simp; done) | (simp [*]; done), by repeat (first | exact Drawn0.refl _ | apply Drawn0.step)⟩
end Go.Proofs.Ytakocdkcfjkmdaa.Pr
namespace Go.Proofs.Ytakocdkcfjkmdaa.Pr
open Go.RowKit Go.Proofs.YtakocdkcfjkmdaaW.PrintWords Go.Proofs.YtakocdkcfjkmdaaW.PrintLast Go.Proofs.YtakocdkcfjkmdaaW.PrintMore
attribute [local go_sem] max2_int min2_int max_two min_two max_three min_three max_four min_four
set_option linter.unusedVariables false
set_option linter.unusedSimpArgs false
def impl_ydigit.f (a0 : Int) : Option (Bool) := if a0 ≥ 48 then (some (decide (a0 ≤ 57))) else (some false)
set_option maxHeartbeats 8000000 in
set_option maxRecDepth 100000 in
theorem impl_ydigit.calls (a0 : Int) (r : Bool) (w : World) (h : impl_ydigit.f a0 = some r) :
    Calls Try.prog 91 #[.int .u8 a0] w fun e w' => e = .returned (.bool r) ∧ Drawn0 w w' := by
  have H : (if a0 ≥ 48 then (some (decide (a0 ≤ 57))) else (some false)) = some r := h
  clear h
  by_cases c2 : a0 ≥ 48
  · rw [if_pos c2] at H
    have c2b0 : decide (48 ≤ a0) = true := decide_eq_true c2
    clear c2
    obtain rfl := Option.some.inj H
    go_enter Try.func91, Try.ntmps91
    go_wp2
    go_ret
    exact ⟨by first | rfl | (simp; done) | (simp [*]; done), by repeat (first | exact Drawn0.refl _ | apply Drawn0.step)⟩
  · rw [if_neg c2] at H
    have c2b0 : decide (48 ≤ a0) = false := decide_eq_false c2
    clear c2
    obtain rfl := Option.some.inj H
    go_enter Try.func91, Try.ntmps91
    go_wp2
    go_ret
    exact ⟨by first | rfl | (simp; done) | (simp [*]; done), by repeat (first | exact Drawn0.refl _ | apply Drawn0.step)⟩
end Go.Proofs.Ytakocdkcfjkmdaa.Pr
namespace Go.Proofs.Ytakocdkcfjkmdaa.Pr
open Go.RowKit Go.Proofs.YtakocdkcfjkmdaaW.PrintWords Go.Proofs.YtakocdkcfjkmdaaW.PrintLast Go.Proofs.YtakocdkcfjkmdaaW.PrintMore
attribute [local go_sem] max2_int min2_int max_two min_two max_three min_three max_four min_four
set_option linter.unusedVariables false
set_option linter.unusedSimpArgs false
def impl_ywordByte.f (a0 : Int) : Option (Bool) := (impl_yletter.f a0).bind fun t101 => (if t101 = true then (some true) else ((impl_ydigit.f a0).bind fun t102 => (if t102 = true then (some true) else (some (a0 == 95)))))
set_option maxHeartbeats 8000000 in
set_option maxRecDepth 100000 in
theorem impl_ywordByte.calls (a0 : Int) (r : Bool) (w : World) (h : impl_ywordByte.f a0 = some r) :
    Calls Try.prog 70 #[.int .u8 a0] w fun e w' => e = .returned (.bool r) ∧ Drawn0 w w' := by
  have H : ((impl_yletter.f a0).bind fun t101 => (if t101 = true then (some true) else ((impl_ydigit.f a0).bind fun t102 => (if t102 = true then (some true) else (some (a0 == 95)))))) = some r := h
  clear h
  replace H := Option.bind_eq_some_iff.mp H
  obtain ⟨t101, A20, H⟩ := H
  replace H : (if t101 = true then (some true) else ((impl_ydigit.f a0).bind fun t102 => (if t102 = true then (some true) else (some (a0 == 95))))) = some r := H
  have A2 := Aside0.mk A20
  clear A20
  by_cases c3 : t101 = true
  · subst c3
    have H1 : (some true) = some r := by rw [if_pos rfl] at H; exact H
    clear H
    have H := H1
    clear H1
    obtain rfl := Option.some.inj H
    go_enter Try.func70, Try.ntmps70
    go_wp2_with (first | ((with_reducible refine gate_callee (f := 90) rfl ?_); refine goesL_ (some 4) rfl rfl Try.func90 (by kernel_rfl) rfl #[.int .u8 a0] rfl (by (try simp only [List.map_toArray, List.map_cons, List.map_nil]); first | done | rfl | (simp only [List.length_drop, List.length_take]; rfl)) ?_; (with_reducible refine (impl_yletter.calls a0 true _ A2.out).mono ?_); rintro e w' ⟨rfl, ⟨nd, rfl⟩⟩; refine ⟨_, rfl, ?_⟩))
    go_ret
    exact ⟨by first | rfl | (simp; done) | (simp [*]; done), by repeat (first | exact Drawn0.refl _ | apply Drawn0.step)⟩
  · replace c3 := Bool.eq_false_iff.mpr c3
    subst c3
    have H1 : ((impl_ydigit.f a0).bind fun t102 => (if t102 = true then (some true) else (some (a0 == 95)))) = some r := by rw [if_neg (show ¬ (false = true) by decide)] at H; exact H
    clear H
    have H := H1
    clear H1
    replace H := Option.bind_eq_some_iff.mp H
    obtain ⟨t102, A40, H⟩ := H
    replace H : (if t102 = true then (some true) else (some (a0 == 95))) = some r := H
    have A4 := Aside0.mk A40
    clear A40
    by_cases c5 : t102 = true
    · subst c5
      have H1 : (some true) = some r := by rw [if_pos rfl] at H; exact H
      clear H
      have H := H1
      clear H1
      obtain rfl := Option.some.inj H
      go_enter Try.func70, Try.ntmps70
      go_wp2_with (first | ((with_reducible refine gate_callee (f := 90) rfl ?_); refine goesL_ (some 4) rfl rfl Try.func90 (by kernel_rfl) rfl #[.int .u8 a0] rfl (by (try simp only [List.map_toArray, List.map_cons, List.map_nil]); first | done | rfl | (simp only [List.length_drop, List.length_take]; rfl)) ?_; (with_reducible refine (impl_yletter.calls a0 false _ A2.out).mono ?_); rintro e w' ⟨rfl, ⟨nd, rfl⟩⟩; refine ⟨_, rfl, ?_⟩) | (go_at_call 91; (with_reducible refine (impl_ydigit.calls a0 true _ A4.out).mono ?_); rintro e w' ⟨rfl, ⟨nd, rfl⟩⟩))
      go_ret
      exact ⟨by first | rfl | (simp; done) | (simp [*]; done), by repeat (first | exact Drawn0.refl _ | apply Drawn0.step)⟩
    · replace c5 := Bool.eq_false_iff.mpr c5
      subst c5
      have H1 : (some (a0 == 95)) = some r := by rw [if_neg (show ¬ (false = true) by decide)] at H; exact H
      clear H
      have H := H1
      clear H1
      obtain rfl := Option.some.inj H
      go_enter Try.func70, Try.ntmps70
      go_wp2_with (first | ((with_reducible refine gate_callee (f := 90) rfl ?_); refine goesL_ (some 4) rfl rfl Try.func90 (by kernel_rfl) rfl #[.int .u8 a0] rfl (by (try simp only [List.map_toArray, List.map_cons, List.map_nil]); first | done | rfl | (simp only [List.length_drop, List.length_take]; rfl)) ?_; (with_reducible refine (impl_yletter.calls a0 false _ A2.out).mono ?_); rintro e w' ⟨rfl, ⟨nd, rfl⟩⟩; refine ⟨_, rfl, ?_⟩) | (go_at_call 91; (with_reducible refine (impl_ydigit.calls a0 false _ A4.out).mono ?_); rintro e w' ⟨rfl, ⟨nd, rfl⟩⟩))
      go_ret
      exact ⟨by first | rfl | (simp; done) | (simp [*]; done), by repeat (first | exact Drawn0.refl _ | apply Drawn0.step)⟩
end Go.Proofs.Ytakocdkcfjkmdaa.Pr
namespace Go.Proofs.Ytakocdkcfjkmdaa.Pr
open Go.RowKit Go.Proofs.YtakocdkcfjkmdaaW.PrintWords Go.Proofs.YtakocdkcfjkmdaaW.PrintLast Go.Proofs.YtakocdkcfjkmdaaW.PrintMore
attribute [local go_sem] max2_int min2_int max_two min_two max_three min_three max_four min_four
set_option linter.unusedVariables false
set_option linter.unusedSimpArgs false
mutual
def impl_ygoodId.j0 : Nat → ByteArray → Bool → Option (Bool)
  | 0, _, _ => none
  | k + 1, x0, x11 => if x11 = true then (some false) else (impl_ygoodId.l0 k x0 (x0.size : Int) 0)
def impl_ygoodId.l0 : Nat → ByteArray → Int → Int → Option (Bool)
  | 0, _, _, _ => none
  | k + 1, x0, x13, x14 => if x14 < x13 then (if 0 ≤ x14 then (if x14 < (x0.size : Int) then ((impl_ywordByte.f (bt x0 x14)).bind fun t101 => (if t101 = true then (impl_ygoodId.l0 k x0 x13 (wrap64 (x14 + 1))) else (if (bt x0 x14) = 45 then (impl_ygoodId.l0 k x0 x13 (wrap64 (x14 + 1))) else (if (bt x0 x14) = 46 then (impl_ygoodId.l0 k x0 x13 (wrap64 (x14 + 1))) else (some false))))) else (none)) else (none)) else (some true)
end
def impl_ygoodId.f (k : Nat) (a0 : ByteArray) : Option (Bool) := if (a0.size : Int) < 1 then (impl_ygoodId.j0 k a0 true) else (impl_ygoodId.j0 k a0 (decide ((a0.size : Int) > 40)))
set_option maxHeartbeats 8000000 in
set_option maxRecDepth 100000 in
theorem impl_ygoodId.calls (k : Nat) (a0 : ByteArray) (r : Bool) (w : World) (h : impl_ygoodId.f k a0 = some r) :
    Calls Try.prog 40 #[.string a0] w fun e w' => e = .returned (.bool r) ∧ Drawn0 w w' := by
  have H : (if (a0.size : Int) < 1 then (impl_ygoodId.j0 k a0 true) else (impl_ygoodId.j0 k a0 (decide ((a0.size : Int) > 40)))) = some r := h
  clear h
  have HC2 := Aside0.mk H
  clear H
  go_enter Try.func40, Try.ntmps40
  go_upto_region 1 with (fail)
  go_cut [11] (fun v11 wc => ∃ (kq : Nat) (x11_1 : Bool), v11 = .bool x11_1 ∧ Aside0 (impl_ygoodId.j0 kq a0 x11_1 = some r) ∧ Aside0 (kq ≤ k) ∧ Drawn0 w wc)
  case first =>
    have H := HC2.out
    clear HC2
    by_cases c3 : (a0.size : Int) < 1
    · rw [if_pos c3] at H
      have c3b0 : decide ((a0.size : Int) < 1) = true := decide_eq_true c3
      have c3b1 : decide (a0.size < 1) = true := decide_eq_true (by omega)
      clear c3
      (first | rw [c3b0] | (simp only [i64_w, i32_w]; rw [c3b0]) | skip)
      have H' := Aside0.mk H
      clear H
      go_wp2
      go_meet
      case rel => exact ⟨_, (true), (by first | rfl | (simp; done) | (simp [*]; done)), H', ⟨by first | omega | exact Nat.le_refl _⟩, by repeat (first | exact Drawn0.refl _ | apply Drawn0.step)⟩
    · rw [if_neg c3] at H
      have c3b0 : decide ((a0.size : Int) < 1) = false := decide_eq_false c3
      have c3b1 : decide (a0.size < 1) = false := decide_eq_false (by omega)
      clear c3
      (first | rw [c3b0] | (simp only [i64_w, i32_w]; rw [c3b0]) | skip)
      have H' := Aside0.mk H
      clear H
      go_wp2
      go_meet
      case rel => exact ⟨_, (decide ((a0.size : Int) > 40)), (by first | rfl | (simp; done) | (simp [*]; done)), H', ⟨by first | omega | exact Nat.le_refl _⟩, by repeat (first | exact Drawn0.refl _ | apply Drawn0.step)⟩
  case rest =>
    clear HC2
    try clear p2
    try clear c3
    try clear c3b0
    try clear c3b1
    obtain ⟨kq, x11_1, rfl, HA, HJ1, ⟨mc1, rfl⟩⟩ := hcut
    cases kq with
    | zero => exact absurd HA.out (by simp [impl_ygoodId.j0])
    | succ kj1 =>
      have H := HA.out
      clear HA
      simp only [impl_ygoodId.j0] at H
      by_cases c4 : x11_1 = true
      · subst c4
        have H1 : (some false) = some r := by rw [if_pos rfl] at H; exact H
        clear H
        have H := H1
        clear H1
        obtain rfl := Option.some.inj H
        go_wp2
        go_ret
        exact ⟨by first | rfl | (simp; done) | (simp [*]; done), by repeat (first | exact Drawn0.refl _ | apply Drawn0.step)⟩
      · replace c4 := Bool.eq_false_iff.mpr c4
        subst c4
        have H1 : (impl_ygoodId.l0 kj1 a0 (a0.size : Int) 0) = some r := by rw [if_neg (show ¬ (false = true) by decide)] at H; exact H
        clear H
        have H := H1
        clear H1
        have H' := Aside0.mk H
        clear H
        go_wp2
        go_loopg [14] kj1 (fun kq v14 w' => ∃ (x14_2 : Int), v14 = .int .i64 x14_2 ∧ Aside0 (impl_ygoodId.l0 kq a0 (a0.size : Int) x14_2 = some r) ∧ Aside0 (kq ≤ kj1) ∧ Drawn0 w w')
        case atStart => exact ⟨(0), (by first | rfl | (simp; done) | (simp [*]; done)), H', ⟨Nat.le_refl _⟩, by repeat (first | exact Drawn0.refl _ | apply Drawn0.step)⟩
        case round =>
          clear H'
          try clear c1
          try clear p2
          try clear c3
          try clear c3b0
          try clear c3b1
          try clear c4
          try clear p2
          obtain ⟨x14_2, rfl, HA, HK2, ⟨m2, rfl⟩⟩ := hrel
          cases gk with
          | zero => exact absurd HA.out (by simp [impl_ygoodId.l0])
          | succ k2 =>
            have H := HA.out
            clear HA
            simp only [impl_ygoodId.l0] at H
            by_cases c5 : x14_2 < (a0.size : Int)
            · rw [if_pos c5] at H
              have c5b0 : decide (x14_2 < (a0.size : Int)) = true := decide_eq_true c5
              clear c5
              by_cases c6 : 0 ≤ x14_2
              · rw [if_pos c6] at H
                have c6b0 : decide (0 ≤ x14_2) = true := decide_eq_true c6
                clear c6
                by_cases c7 : x14_2 < (a0.size : Int)
                · rw [if_pos c7] at H
                  have c7b0 : decide (x14_2 < (a0.size : Int)) = true := decide_eq_true c7
                  clear c7
                  replace H := Option.bind_eq_some_iff.mp H
                  obtain ⟨t101, A90, H⟩ := H
                  replace H : (if t101 = true then (impl_ygoodId.l0 k2 a0 (a0.size : Int) (wrap64 (x14_2 + 1))) else (if (bt a0 x14_2) = 45 then (impl_ygoodId.l0 k2 a0 (a0.size : Int) (wrap64 (x14_2 + 1))) else (if (bt a0 x14_2) = 46 then (impl_ygoodId.l0 k2 a0 (a0.size : Int) (wrap64 (x14_2 + 1))) else (some false)))) = some r := H
                  have A9 := Aside0.mk A90
                  clear A90
                  by_cases c10 : t101 = true
                  · subst c10
                    have H1 : (impl_ygoodId.l0 k2 a0 (a0.size : Int) (wrap64 (x14_2 + 1))) = some r := by rw [if_pos rfl] at H; exact H
                    clear H
                    have H := H1
                    clear H1
                    have H' := Aside0.mk H
                    clear H
                    have p8 : 0 ≤ (x14_2 : Int) := of_decide_eq_true (by first | (with_reducible assumption) | assumption)
                    have q8 : x14_2 < (a0.size : Int) := of_decide_eq_true (by first | (with_reducible assumption) | assumption)
                    have hx8 := bt_at a0 x14_2
                    replace p8 := eq_true p8
                    replace q8 := eq_true q8
                    go_wp2_with (first | ((with_reducible refine gate_callee (f := 70) rfl ?_); refine goesL_ (some 20) rfl rfl Try.func70 (by kernel_rfl) rfl #[.int .u8 (bt a0 x14_2)] rfl (by (try simp only [List.map_toArray, List.map_cons, List.map_nil]); first | done | rfl | (simp only [List.length_drop, List.length_take]; rfl)) ?_; (with_reducible refine (impl_ywordByte.calls (bt a0 x14_2) true _ A9.out).mono ?_); rintro e w' ⟨rfl, ⟨nd, rfl⟩⟩; refine ⟨_, rfl, ?_⟩))
                    go_roundg k2
                    case measure => have := HJ1.out; have := HK2.out; omega
                    case rel => exact ⟨(wrap64 (x14_2 + 1)), (by first | rfl | (simp; done) | (simp [*]; done)), H', ⟨by have := HJ1.out; have := HK2.out; omega⟩, by repeat (first | exact Drawn0.refl _ | apply Drawn0.step)⟩
                  · replace c10 := Bool.eq_false_iff.mpr c10
                    subst c10
                    have H1 : (if (bt a0 x14_2) = 45 then (impl_ygoodId.l0 k2 a0 (a0.size : Int) (wrap64 (x14_2 + 1))) else (if (bt a0 x14_2) = 46 then (impl_ygoodId.l0 k2 a0 (a0.size : Int) (wrap64 (x14_2 + 1))) else (some false))) = some r := by rw [if_neg (show ¬ (false = true) by decide)] at H; exact H
                    clear H
                    have H := H1
                    clear H1
                    by_cases c12 : (bt a0 x14_2) = 45
                    · rw [if_pos c12] at H
                      have c12b0 : ((bt a0 x14_2) == 45) = true := beq_iff_eq.mpr c12
                      have c12b1 : ((bt a0 x14_2) != 45) = false := bne_eq_false_iff_eq.mpr c12
                      clear c12
                      have H' := Aside0.mk H
                      clear H
                      have p8 : 0 ≤ (x14_2 : Int) := of_decide_eq_true (by first | (with_reducible assumption) | assumption)
                      have q8 : x14_2 < (a0.size : Int) := of_decide_eq_true (by first | (with_reducible assumption) | assumption)
                      have hx8 := bt_at a0 x14_2
                      replace p8 := eq_true p8
                      replace q8 := eq_true q8
                      go_wp2_with (first | ((with_reducible refine gate_callee (f := 70) rfl ?_); refine goesL_ (some 20) rfl rfl Try.func70 (by kernel_rfl) rfl #[.int .u8 (bt a0 x14_2)] rfl (by (try simp only [List.map_toArray, List.map_cons, List.map_nil]); first | done | rfl | (simp only [List.length_drop, List.length_take]; rfl)) ?_; (with_reducible refine (impl_ywordByte.calls (bt a0 x14_2) false _ A9.out).mono ?_); rintro e w' ⟨rfl, ⟨nd, rfl⟩⟩; refine ⟨_, rfl, ?_⟩; have p11 : 0 ≤ (x14_2 : Int) := of_decide_eq_true (by first | (with_reducible assumption) | assumption); have q11 : x14_2 < (a0.size : Int) := of_decide_eq_true (by first | (with_reducible assumption) | assumption); have hx11 := bt_at a0 x14_2; replace p11 := eq_true p11; replace q11 := eq_true q11))
                      go_roundg k2
                      case measure => have := HJ1.out; have := HK2.out; omega
                      case rel => exact ⟨(wrap64 (x14_2 + 1)), (by first | rfl | (simp; done) | (simp [*]; done)), H', ⟨by have := HJ1.out; have := HK2.out; omega⟩, by repeat (first | exact Drawn0.refl _ | apply Drawn0.step)⟩
                    · rw [if_neg c12] at H
                      have c12b0 : ((bt a0 x14_2) == 45) = false := beq_eq_false_iff_ne.mpr c12
                      have c12b1 : ((bt a0 x14_2) != 45) = true := bne_iff_ne.mpr c12
                      by_cases c14 : (bt a0 x14_2) = 46
                      · rw [if_pos c14] at H
                        have c14b0 : ((bt a0 x14_2) == 46) = true := beq_iff_eq.mpr c14
                        have c14b1 : ((bt a0 x14_2) != 46) = false := bne_eq_false_iff_eq.mpr c14
                        clear c14
                        have H' := Aside0.mk H
                        clear H
                        have p8 : 0 ≤ (x14_2 : Int) := of_decide_eq_true (by first | (with_reducible assumption) | assumption)
                        have q8 : x14_2 < (a0.size : Int) := of_decide_eq_true (by first | (with_reducible assumption) | assumption)
                        have hx8 := bt_at a0 x14_2
                        replace p8 := eq_true p8
                        replace q8 := eq_true q8
                        go_wp2_with (first | ((with_reducible refine gate_callee (f := 70) rfl ?_); refine goesL_ (some 20) rfl rfl Try.func70 (by kernel_rfl) rfl #[.int .u8 (bt a0 x14_2)] rfl (by (try simp only [List.map_toArray, List.map_cons, List.map_nil]); first | done | rfl | (simp only [List.length_drop, List.length_take]; rfl)) ?_; (with_reducible refine (impl_ywordByte.calls (bt a0 x14_2) false _ A9.out).mono ?_); rintro e w' ⟨rfl, ⟨nd, rfl⟩⟩; refine ⟨_, rfl, ?_⟩; have p11 : 0 ≤ (x14_2 : Int) := of_decide_eq_true (by first | (with_reducible assumption) | assumption); have q11 : x14_2 < (a0.size : Int) := of_decide_eq_true (by first | (with_reducible assumption) | assumption); have hx11 := bt_at a0 x14_2; replace p11 := eq_true p11; replace q11 := eq_true q11; have p13 : 0 ≤ (x14_2 : Int) := of_decide_eq_true (by first | (with_reducible assumption) | assumption); have q13 : x14_2 < (a0.size : Int) := of_decide_eq_true (by first | (with_reducible assumption) | assumption); have hx13 := bt_at a0 x14_2; replace p13 := eq_true p13; replace q13 := eq_true q13))
                        go_roundg k2
                        case measure => have := HJ1.out; have := HK2.out; omega
                        case rel => exact ⟨(wrap64 (x14_2 + 1)), (by first | rfl | (simp; done) | (simp [*]; done)), H', ⟨by have := HJ1.out; have := HK2.out; omega⟩, by repeat (first | exact Drawn0.refl _ | apply Drawn0.step)⟩
                      · rw [if_neg c14] at H
                        have c14b0 : ((bt a0 x14_2) == 46) = false := beq_eq_false_iff_ne.mpr c14
                        have c14b1 : ((bt a0 x14_2) != 46) = true := bne_iff_ne.mpr c14
                        obtain rfl := Option.some.inj H
                        have p8 : 0 ≤ (x14_2 : Int) := of_decide_eq_true (by first | (with_reducible assumption) | assumption)
                        have q8 : x14_2 < (a0.size : Int) := of_decide_eq_true (by first | (with_reducible assumption) | assumption)
                        have hx8 := bt_at a0 x14_2
                        replace p8 := eq_true p8
                        replace q8 := eq_true q8
                        go_wp2_with (first | ((with_reducible refine gate_callee (f := 70) rfl ?_); refine goesL_ (some 20) rfl rfl Try.func70 (by kernel_rfl) rfl #[.int .u8 (bt a0 x14_2)] rfl (by (try simp only [List.map_toArray, List.map_cons, List.map_nil]); first | done | rfl | (simp only [List.length_drop, List.length_take]; rfl)) ?_; (with_reducible refine (impl_ywordByte.calls (bt a0 x14_2) false _ A9.out).mono ?_); rintro e w' ⟨rfl, ⟨nd, rfl⟩⟩; refine ⟨_, rfl, ?_⟩; have p11 : 0 ≤ (x14_2 : Int) := of_decide_eq_true (by first | (with_reducible assumption) | assumption); have q11 : x14_2 < (a0.size : Int) := of_decide_eq_true (by first | (with_reducible assumption) | assumption); have hx11 := bt_at a0 x14_2; replace p11 := eq_true p11; replace q11 := eq_true q11; have p13 : 0 ≤ (x14_2 : Int) := of_decide_eq_true (by first | (with_reducible assumption) | assumption); have q13 : x14_2 < (a0.size : Int) := of_decide_eq_true (by first | (with_reducible assumption) | assumption); have hx13 := bt_at a0 x14_2; replace p13 := eq_true p13; replace q13 := eq_true q13))
                        go_ret
                        exact ⟨by first | rfl | (simp; done) | (simp [*]; done), by repeat (first | exact Drawn0.refl _ | apply Drawn0.step)⟩
                · rw [if_neg c7] at H
                  exact absurd H (by simp)
              · rw [if_neg c6] at H
                exact absurd H (by simp)
            · rw [if_neg c5] at H
              have c5b0 : decide (x14_2 < (a0.size : Int)) = false := decide_eq_false c5
              clear c5
              obtain rfl := Option.some.inj H
              go_wp2
              go_ret
              exact ⟨by first | rfl | (simp; done) | (simp [*]; done), by repeat (first | exact Drawn0.refl _ | apply Drawn0.step)⟩
end Go.Proofs.Ytakocdkcfjkmdaa.Pr
namespace Go.Proofs.Ytakocdkcfjkmdaa.Pr
open Go.RowKit Go.Proofs.YtakocdkcfjkmdaaW.PrintWords Go.Proofs.YtakocdkcfjkmdaaW.PrintLast Go.Proofs.YtakocdkcfjkmdaaW.PrintMore
attribute [local go_sem] max2_int min2_int max_two min_two max_three min_three max_four min_four
set_option linter.unusedVariables false
set_option linter.unusedSimpArgs false
def impl_ypow.l0 : Nat → Int → Int → Int → Int → Option (Int)
  | 0, _, _, _, _ => none
  | k + 1, x0, x1, x2, x7 => if x1 > 0 then (if (Go.bits .and .i64 x1 1) = 1 then (if x2 = 0 then (none) else (impl_ypow.l0 k (Int.tmod (wrap64 (x0 * x0)) x2) (x1 / 2) x2 (Int.tmod (wrap64 (x7 * x0)) x2))) else (if x2 = 0 then (none) else (impl_ypow.l0 k (Int.tmod (wrap64 (x0 * x0)) x2) (x1 / 2) x2 x7))) else (some x7)
def impl_ypow.f (k : Nat) (a0 : Int) (a1 : Int) (a2 : Int) : Option (Int) := if a2 = 0 then (none) else (impl_ypow.l0 k (Int.tmod a0 a2) a1 a2 1)
set_option maxHeartbeats 8000000 in
set_option maxRecDepth 100000 in
theorem impl_ypow.calls (k : Nat) (a0 : Int) (a1 : Int) (a2 : Int) (r : Int) (w : World) (h : impl_ypow.f k a0 a1 a2 = some r) :
    Calls Try.prog 71 #[.int .i64 a0, .int .i64 a1, .int .i64 a2] w fun e w' => e = .returned (.int .i64 r) ∧ Drawn0 w w' := by
  have H : (if a2 = 0 then (none) else (impl_ypow.l0 k (Int.tmod a0 a2) a1 a2 1)) = some r := h
  clear h
  by_cases c4 : a2 = 0
  · rw [if_pos c4] at H
    exact absurd H (by simp)
  · rw [if_neg c4] at H
    have c4b0 : (a2 == 0) = false := beq_eq_false_iff_ne.mpr c4
    have c4b1 : (a2 != 0) = true := bne_iff_ne.mpr c4
    have H' := Aside0.mk H
    clear H
    go_enter Try.func71, Try.ntmps71
    go_wp2
    go_loopg [0, 1, 7] k (fun kq v0 v1 v7 w' => ∃ (x0_1 : Int) (x1_1 : Int) (x7_1 : Int), v0 = .int .i64 x0_1 ∧ v1 = .int .i64 x1_1 ∧ v7 = .int .i64 x7_1 ∧ Aside0 (impl_ypow.l0 kq x0_1 x1_1 a2 x7_1 = some r) ∧ Aside0 (kq ≤ k) ∧ Drawn0 w w')
    case atStart => exact ⟨(Int.tmod a0 a2), (a1), (1), (by first | rfl | (simp; done) | (simp [*]; done)), (by first | rfl | (simp; done) | (simp [*]; done)), (by first | rfl | (simp; done) | (simp [*]; done)), H', ⟨Nat.le_refl _⟩, by repeat (first | exact Drawn0.refl _ | apply Drawn0.step)⟩
    case round =>
      clear H'
      try clear p2
      try clear c4
      try clear c4b0
      try clear c4b1
      obtain ⟨x0_1, x1_1, x7_1, rfl, rfl, rfl, HA, HK1, ⟨m1, rfl⟩⟩ := hrel
      cases gk with
      | zero => exact absurd HA.out (by simp [impl_ypow.l0])
      | succ k1 =>
        have H := HA.out
        clear HA
        simp only [impl_ypow.l0] at H
        by_cases c5 : x1_1 > 0
        · rw [if_pos c5] at H
          have c5b0 : decide (0 < x1_1) = true := decide_eq_true c5
          clear c5
          by_cases c6 : (Go.bits .and .i64 x1_1 1) = 1
          · rw [if_pos c6] at H
            have c6b0 : ((Go.bits .and .i64 x1_1 1) == 1) = true := beq_iff_eq.mpr c6
            have c6b1 : ((Go.bits .and .i64 x1_1 1) != 1) = false := bne_eq_false_iff_eq.mpr c6
            clear c6
            by_cases c7 : a2 = 0
            · rw [if_pos c7] at H
              exact absurd H (by simp)
            · rw [if_neg c7] at H
              have c7b0 : (a2 == 0) = false := beq_eq_false_iff_ne.mpr c7
              have c7b1 : (a2 != 0) = true := bne_iff_ne.mpr c7
              have H' := Aside0.mk H
              clear H
              go_wp2
              go_roundg k1
              case measure => have := HK1.out; omega
              case rel => exact ⟨(Int.tmod (wrap64 (x0_1 * x0_1)) a2), (x1_1 / 2), (Int.tmod (wrap64 (x7_1 * x0_1)) a2), (by first | rfl | (simp; done) | (simp [*]; done)), (by first | rfl | (simp; done) | (simp [*]; done)), (by first | rfl | (simp; done) | (simp [*]; done)), H', ⟨by have := HK1.out; omega⟩, by repeat (first | exact Drawn0.refl _ | apply Drawn0.step)⟩
          · rw [if_neg c6] at H
            have c6b0 : ((Go.bits .and .i64 x1_1 1) == 1) = false := beq_eq_false_iff_ne.mpr c6
            have c6b1 : ((Go.bits .and .i64 x1_1 1) != 1) = true := bne_iff_ne.mpr c6
            by_cases c8 : a2 = 0
            · rw [if_pos c8] at H
              exact absurd H (by simp)
            · rw [if_neg c8] at H
              have c8b0 : (a2 == 0) = false := beq_eq_false_iff_ne.mpr c8
              have c8b1 : (a2 != 0) = true := bne_iff_ne.mpr c8
              have H' := Aside0.mk H
              clear H
              go_wp2
              go_roundg k1
              case measure => have := HK1.out; omega
              case rel => exact ⟨(Int.tmod (wrap64 (x0_1 * x0_1)) a2), (x1_1 / 2), (x7_1), (by first | rfl | (simp; done) | (simp [*]; done)), (by first | rfl | (simp; done) | (simp [*]; done)), (by first | rfl | (simp; done) | (simp [*]; done)), H', ⟨by have := HK1.out; omega⟩, by repeat (first | exact Drawn0.refl _ | apply Drawn0.step)⟩
        · rw [if_neg c5] at H
          have c5b0 : decide (0 < x1_1) = false := decide_eq_false c5
          clear c5
          obtain rfl := Option.some.inj H
          go_wp2
          go_ret
          exact ⟨by first | rfl | (simp; done) | (simp [*]; done), by repeat (first | exact Drawn0.refl _ | apply Drawn0.step)⟩
end Go.Proofs.Ytakocdkcfjkmdaa.Pr
namespace Go.Proofs.Ytakocdkcfjkmdaa.Pr
open Go.RowKit Go.Proofs.YtakocdkcfjkmdaaW.PrintWords Go.Proofs.YtakocdkcfjkmdaaW.PrintLast Go.Proofs.YtakocdkcfjkmdaaW.PrintMore
attribute [local go_sem] max2_int min2_int max_two min_two max_three min_three max_four min_four
set_option linter.unusedVariables false
set_option linter.unusedSimpArgs false
def impl_ygoodPublic.f (k : Nat) (a0 : Int) : Option (Bool) := if a0 ≥ 2 then (if a0 < 2147483579 then ((impl_ypow.f k a0 1073741789 2147483579).bind fun t101 => (some (t101 == 1))) else (some false)) else (some false)
set_option maxHeartbeats 8000000 in
set_option maxRecDepth 100000 in
theorem impl_ygoodPublic.calls (k : Nat) (a0 : Int) (r : Bool) (w : World) (h : impl_ygoodPublic.f k a0 = some r) :
    Calls Try.prog 41 #[.int .i64 a0] w fun e w' => e = .returned (.bool r) ∧ Drawn0 w w' := by
  have H : (if a0 ≥ 2 then (if a0 < 2147483579 then ((impl_ypow.f k a0 1073741789 2147483579).bind fun t101 => (some (t101 == 1))) else (some false)) else (some false)) = some r := h
  clear h
  by_cases c2 : a0 ≥ 2
  · rw [if_pos c2] at H
    have c2b0 : decide (2 ≤ a0) = true := decide_eq_true c2
    clear c2
    by_cases c3 : a0 < 2147483579
    · rw [if_pos c3] at H
      have c3b0 : decide (a0 < 2147483579) = true := decide_eq_true c3
      clear c3
      replace H := Option.bind_eq_some_iff.mp H
      obtain ⟨t101, A40, H⟩ := H
      replace H : (some (t101 == 1)) = some r := H
      have A4 := Aside0.mk A40
      clear A40
      obtain rfl := Option.some.inj H
      go_enter Try.func41, Try.ntmps41
      go_wp2_with (first | (go_at_call 71; (with_reducible refine (impl_ypow.calls k a0 1073741789 2147483579 t101 _ A4.out).mono ?_); rintro e w' ⟨rfl, ⟨nd, rfl⟩⟩))
      go_ret
      exact ⟨by first | rfl | (simp; done) | (simp [*]; done), by repeat (first | exact Drawn0.refl _ | apply Drawn0.step)⟩
    · rw [if_neg c3] at H
      have c3b0 : decide (a0 < 2147483579) = false := decide_eq_false c3
      clear c3
      obtain rfl := Option.some.inj H
      go_enter Try.func41, Try.ntmps41
      go_wp2
      go_ret
      exact ⟨by first | rfl | (simp; done) | (simp [*]; done), by repeat (first | exact Drawn0.refl _ | apply Drawn0.step)⟩
  · rw [if_neg c2] at H
    have c2b0 : decide (2 ≤ a0) = false := decide_eq_false c2
    clear c2
    obtain rfl := Option.some.inj H
    go_enter Try.func41, Try.ntmps41
    go_wp2
    go_ret
    exact ⟨by first | rfl | (simp; done) | (simp [*]; done), by repeat (first | exact Drawn0.refl _ | apply Drawn0.step)⟩
end Go.Proofs.Ytakocdkcfjkmdaa.Pr
