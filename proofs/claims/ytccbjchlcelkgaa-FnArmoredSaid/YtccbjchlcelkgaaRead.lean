/- How an argument of any type made of whole numbers, bools, strings, structs and slices is opened: its reading as data gives a value of a 'kind' (Kd). General: no program in it. -/
import Derived.Test.YtccbjchlcelkgaaWWords
import Derived.ProofKit
import Derived.OpenShut
import Derived.ShutString
import Derived.ChangeOld
import Derived.Deep.Slices
import Derived.Lib.SmallJoins
namespace Go.Proofs.Ytccbjchlcelkgaa.Read
open Go.RowKit Go.ChangeShapes Go.WideShapes Go.Deep Go.Proofs.YtccbjchlcelkgaaW.PrintWords
set_option linter.unusedVariables false

/-- Type t's cells, wherever they are read as data, are told by the kind d. -/
def Tells (P : Program) (t : TypeId) {α : Type} (d : Kd α) (ok : α → Prop) : Prop :=
  P.cellsOf t = d.sz ∧ ∀ (H : Type) (enc : TypeId × Value → H) (w : World) (sp : Nat → Bool) (fuel : Nat) (cs : List Value) (x : DataW H × List MemPlace),
    DataW.trod enc P w 0 sp true fuel t cs = some x → ∃ a : α, d.K w a cs ∧ ok a

theorem tells_int {P : Program} {t : TypeId} {k : IntKind} (ht : P.underlying t = some (.int k)) (hc : P.cellsOf t = 1) : Tells P t (Kd.int k) (fun n => (Lit.int k n).wf = true) :=
  ⟨hc, fun H enc w sp fuel cs x h => by
    obtain ⟨n, rfl, _, hw⟩ := DataW.trod_int ht h
    exact ⟨n, rfl, hw⟩⟩
theorem tells_bool {P : Program} {t : TypeId} (ht : P.underlying t = some .bool) (hc : P.cellsOf t = 1) : Tells P t Kd.bool (fun _ => True) :=
  ⟨hc, fun H enc w sp fuel cs x h => by
    obtain ⟨n, rfl, _⟩ := DataW.trod_bool ht h
    exact ⟨n, rfl, trivial⟩⟩
theorem tells_string {P : Program} {t : TypeId} (ht : P.underlying t = some .string) (hc : P.cellsOf t = 1) : Tells P t Kd.string (fun s => s.size ≤ maxLen) :=
  ⟨hc, fun H enc w sp fuel cs x h => by
    obtain ⟨n, rfl, _, hs⟩ := DataW.trod_string ht h
    exact ⟨n, rfl, hs⟩⟩

theorem tells_slice {P : Program} {t e : TypeId} {α : Type} {d : Kd α} {ok : α → Prop} (ht : P.underlying t = some (.slice e)) (hc : P.cellsOf t = 1) (he : Tells P e d ok) :
    Tells P t (Kd.slice e d) (fun xs => xs.length ≤ 9223372036854775807 ∧ ∀ x ∈ xs, ok x) := by
  refine ⟨hc, fun H enc w sp fuel cs x h => ?_⟩
  rcases open_slice ht h with ⟨rfl, _⟩ | ⟨a, len, cap, m, n, D, Pl, rfl, _, hl, hm, hmm, _, hx⟩
  · exact ⟨[], ⟨none, 0, rfl, by simp, Kd.C_nil d w⟩, by simp, by simp⟩
  · have hlm : len ≤ m := by rw [hmm]; split <;> omega
    have hmax : len ≤ 9223372036854775807 := by unfold maxLen at hm; omega
    have key : ∀ j, j ≤ len → ∃ xs : List α, xs.length = j ∧ (∀ x ∈ xs, ok x) ∧ ∀ i p, xs[i]? = some p → ∃ c, c.length = d.sz ∧ d.K w p c ∧ ∀ k u, c[k]? = some u → w.cell? (a.add (i * d.sz + k)) = some u := by
      intro j
      induction j with
      | zero => exact fun _ => ⟨[], rfl, by simp, by simp⟩
      | succ j ih =>
        intro hj
        obtain ⟨xs, hxl, hok, hc⟩ := ih (by omega)
        obtain ⟨cs', h1, h2⟩ := hx j (by omega)
        obtain ⟨y, hy, hoky⟩ := he.2 H enc w sp n cs' _ h2
        obtain ⟨_, hcl, hcc⟩ := World.cells?_some h1
        refine ⟨xs ++ [y], by simp [hxl], fun x hx => ?_, fun i p hp => ?_⟩
        · rcases List.mem_append.1 hx with hx | hx
          · exact hok x hx
          · rw [List.mem_singleton.1 hx]; exact hoky
        · rcases Nat.lt_or_ge i xs.length with hi | hi
          · rw [List.getElem?_append_left hi] at hp
            exact hc i p hp
          · rw [List.getElem?_append_right hi] at hp
            have hi' : i = xs.length := by
              rcases Nat.eq_zero_or_pos (i - xs.length) with h0 | h0
              · omega
              · rw [List.getElem?_eq_none (by simp; omega)] at hp; cases hp
            subst hi'
            simp only [Nat.sub_self, List.getElem?_cons_zero, Option.some.injEq] at hp
            subst hp
            refine ⟨cs', by rw [hcl, he.1], hy, fun k u hu => ?_⟩
            have hk : k < P.cellsOf e := by
              rcases Nat.lt_or_ge k cs'.length with h | h
              · omega
              · rw [List.getElem?_eq_none h] at hu; cases hu
            have := hcc k hk
            rw [Go.Addr.add_add, he.1, ← hxl] at this
            rw [this]; exact hu
    obtain ⟨xs, hxl, hok, hc⟩ := key len (Nat.le_refl _)
    refine ⟨xs, ⟨some a, cap, by rw [hxl], by omega, ?_⟩, by omega, hok⟩
    exact ⟨rfl, by omega, fun _ => ⟨a, rfl, hc⟩⟩

/-- The fields of a struct from cell o on. -/
def TellsFs (P : Program) (fs : List Field) (o : Nat) {α : Type} (d : Kd α) (ok : α → Prop) : Prop :=
  ∀ (H : Type) (enc : TypeId × Value → H) (w : World) (sp : Nat → Bool) (n : Nat) (cs : List Value), o + d.sz = cs.length →
    (∀ f ∈ fs, ∃ x, DataW.trod enc P w 0 sp true n f.type ((cs.drop f.offset).take (P.cellsOf f.type)) = some x) → ∃ a, d.K w a (cs.drop o) ∧ ok a

theorem fs_one {P : Program} {f : Field} {o : Nat} {α : Type} {d : Kd α} {ok : α → Prop} (ho : f.offset = o) (hf : Tells P f.type d ok) : TellsFs P [f] o d ok := by
  intro H enc w sp n cs hl h
  obtain ⟨x, hx⟩ := h f List.mem_cons_self
  obtain ⟨a, ha, hok⟩ := hf.2 H enc w sp n _ x hx
  refine ⟨a, ?_, hok⟩
  rw [ho, hf.1, List.take_of_length_le (by rw [List.length_drop]; omega)] at ha
  exact ha
theorem fs_cons {P : Program} {f : Field} {fs : List Field} {o : Nat} {α β : Type} {d : Kd α} {ok : α → Prop} {d2 : Kd β} {ok2 : β → Prop} (ho : f.offset = o) (hf : Tells P f.type d ok)
    (hr : TellsFs P fs (o + d.sz) d2 ok2) : TellsFs P (f :: fs) o (Kd.pair d d2) (fun p => ok p.1 ∧ ok2 p.2) := by
  intro H enc w sp n cs hl h
  have hl' : o + (d.sz + d2.sz) = cs.length := hl
  obtain ⟨x, hx⟩ := h f List.mem_cons_self
  obtain ⟨a, ha, hok⟩ := hf.2 H enc w sp n _ x hx
  obtain ⟨b, hb, hok2⟩ := hr H enc w sp n cs (by omega) (fun g hg => h g (List.mem_cons_of_mem _ hg))
  refine ⟨(a, b), ⟨(cs.drop o).take d.sz, cs.drop (o + d.sz), ?_, ?_, hb⟩, hok, hok2⟩
  · rw [← List.drop_drop, List.take_append_drop]
  · rw [ho, hf.1] at ha; exact ha
theorem tells_struct {P : Program} {t : TypeId} {fs : Array Field} {α : Type} {d : Kd α} {ok : α → Prop} (ht : P.underlying t = some (.struct fs)) (hc : P.cellsOf t = d.sz) (hf : TellsFs P fs.toList 0 d ok) : Tells P t d ok := by
  refine ⟨hc, fun H enc w sp fuel cs x h => ?_⟩
  obtain ⟨xs, n, rfl, _, hl, hxl, hx⟩ := DataW.trod_struct ht h
  have := hf H enc w sp n cs (by rw [Nat.zero_add, ← hc, hl]) (fun f hmem => by
    obtain ⟨i, hi, rfl⟩ := List.getElem_of_mem hmem
    have hi' : i < fs.size := by simpa using hi
    have h1 := hx i (fs.toList[i]) (by simp [hi'])
    refine ⟨xs[i]'(by omega), ?_⟩
    rw [h1, List.getElem?_eq_getElem])
  simpa using this
theorem tells_iso {P : Program} {t : TypeId} {α β : Type} {d : Kd α} {ok : α → Prop} (f : β → α) (g : α → β) (hfg : ∀ a, f (g a) = a) (h : Tells P t d ok) : Tells P t (Kd.iso d f) (fun b => ok (f b)) :=
  ⟨h.1, fun H enc w sp fuel cs x hx => by
    obtain ⟨a, ha, hok⟩ := h.2 H enc w sp fuel cs x hx
    exact ⟨g a, by show d.K w (f (g a)) cs; rw [hfg]; exact ha, by show ok (f (g a)); rw [hfg]; exact hok⟩⟩
theorem tells_weaken {P : Program} {t : TypeId} {α : Type} {d : Kd α} {ok ok' : α → Prop} (h : Tells P t d ok) (hw : ∀ a, ok a → ok' a) : Tells P t d ok' :=
  ⟨h.1, fun H enc w sp fuel cs x hx => let ⟨a, ha, ho⟩ := h.2 H enc w sp fuel cs x hx; ⟨a, ha, hw a ho⟩⟩

/-- An argument, opened. -/
theorem tells_arg {P : Program} {t : TypeId} {α : Type} {d : Kd α} {ok : α → Prop} (h : Tells P t d ok) {H : Type} {enc : TypeId × Value → H} {w : World} {sp : Nat → Bool} {v : Value} {D : DataW H} {ps : List MemPlace}
    (hv : DataW.Trod enc P w 0 sp true t v D ps) : ∃ a, d.K w a v.cells.toList ∧ ok a := by
  obtain ⟨fuel, hf⟩ := hv
  exact h.2 H enc w sp fuel _ _ hf
theorem int_bounds {n : Int} (h : (Lit.int .i64 n).wf = true) : -9223372036854775808 ≤ n ∧ n ≤ 9223372036854775807 := by
  simpa [Lit.wf, IntKind.min, IntKind.max, IntKind.signed, IntKind.bits] using h
theorem byte_bounds {n : Int} (h : (Lit.int .u8 n).wf = true) : 0 ≤ n ∧ n ≤ 255 := by
  simpa [Lit.wf, IntKind.min, IntKind.max, IntKind.signed, IntKind.bits] using h
/-! What is known of an argument: whole numbers, bytes, strings, bools, slices. -/
def okI (n : Int) : Prop := -9223372036854775808 ≤ n ∧ n ≤ 9223372036854775807
def okB (n : Int) : Prop := 0 ≤ n ∧ n ≤ 255
def okS (s : ByteArray) : Prop := s.size ≤ 9223372036854775807
def okL {α : Type} (ok : α → Prop) (xs : List α) : Prop := xs.length ≤ 9223372036854775807 ∧ ∀ x ∈ xs, ok x
theorem tellsI {P : Program} {t : TypeId} (ht : P.underlying t = some (.int .i64)) (hc : P.cellsOf t = 1) : Tells P t (Kd.int .i64) okI := tells_weaken (tells_int ht hc) fun _ h => int_bounds h
theorem tellsB {P : Program} {t : TypeId} (ht : P.underlying t = some (.int .u8)) (hc : P.cellsOf t = 1) : Tells P t (Kd.int .u8) okB := tells_weaken (tells_int ht hc) fun _ h => byte_bounds h
theorem tellsS {P : Program} {t : TypeId} (ht : P.underlying t = some .string) (hc : P.cellsOf t = 1) : Tells P t Kd.string okS := tells_weaken (tells_string ht hc) fun _ h => by unfold maxLen at h; exact h
theorem tellsT {P : Program} {t : TypeId} (ht : P.underlying t = some .bool) (hc : P.cellsOf t = 1) : Tells P t Kd.bool (fun _ => True) := tells_bool ht hc
theorem tellsL {P : Program} {t e : TypeId} {α : Type} {d : Kd α} {ok : α → Prop} (ht : P.underlying t = some (.slice e)) (hc : P.cellsOf t = 1) (he : Tells P e d ok) : Tells P t (Kd.slice e d) (okL ok) := tells_slice ht hc he
/-- A value of a struct type, out of its cells. -/
theorem agg_of {P : Program} {t : TypeId} {fs : Array Field} {w : World} {r : Reach} {base : Nat} {v : Value} {cs : List Value} (ht : P.underlying t = some (.struct fs)) (hv : Value.okWide P w r base t v) (hc : v.cells.toList = cs) : v = .agg cs.toArray := by
  obtain ⟨xs, rfl, _⟩ := okWide_struct ht hv
  subst hc
  simp [Value.cells]
theorem arg_struct {P : Program} {t : TypeId} {fs : Array Field} {α : Type} {d : Kd α} {ok : α → Prop} (ht : P.underlying t = some (.struct fs)) (h : Tells P t d ok) {H : Type} {enc : TypeId × Value → H} {w w2 : World} {r : Reach} {base : Nat} {sp : Nat → Bool} {v : Value} {D : DataW H} {ps : List MemPlace}
    (ho : Value.okWide P w2 r base t v) (hv : DataW.Trod enc P w 0 sp true t v D ps) : ∃ a cs, v = .agg cs.toArray ∧ d.K w a cs ∧ ok a := by
  obtain ⟨a, hK, hok⟩ := tells_arg h hv
  exact ⟨a, _, agg_of ht ho rfl, hK, hok⟩
theorem arg_slice {P : Program} {t e : TypeId} {α : Type} {d : Kd α} {ok : α → Prop} (ht : P.underlying t = some (.slice e)) (h : Tells P t (Kd.slice e d) (okL ok)) {H : Type} {enc : TypeId × Value → H} {w w2 : World} {r : Reach} {base : Nat} {sp : Nat → Bool} {v : Value} {D : DataW H} {ps : List MemPlace}
    (ho : Value.okWide P w2 r base t v) (hv : DataW.Trod enc P w 0 sp true t v D ps) : ∃ A c xs, v = .slice A xs.length c ∧ xs.length ≤ c ∧ d.C w A xs.length xs ∧ okL ok xs := by
  obtain ⟨a, l, c, rfl⟩ := okWide_slice ht ho
  obtain ⟨xs, ⟨A, c', hc, hl, hC⟩, hok⟩ := tells_arg h hv
  simp only [Value.cells, List.cons.injEq, and_true, Value.slice.injEq] at hc
  obtain ⟨rfl, rfl, rfl⟩ := hc
  exact ⟨_, _, xs, rfl, hl, hC, hok⟩
end Go.Proofs.Ytccbjchlcelkgaa.Read
