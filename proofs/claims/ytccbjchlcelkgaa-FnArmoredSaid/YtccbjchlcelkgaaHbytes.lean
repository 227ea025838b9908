/- []byte(s), s a string, as an operation that hands back a row that is only read: the words that mkprint.py's texts use for it. -/
import Derived.Test.YtccbjchlcelkgaaPr0x
namespace Go.Proofs.Ytccbjchlcelkgaa.Pr
open Go.RowKit Go.Proofs.YtccbjchlcelkgaaW.PrintWords Go.Proofs.YtccbjchlcelkgaaW.PrintLast Go.Proofs.YtccbjchlcelkgaaW.PrintMore
set_option linter.unusedVariables false
def bytesOfS.f (s : ByteArray) : Option (List Int) := if s.size ≤ 9223372036854775807 then some (bytesOf s) else none
/-- What a conversion comes to. -/
def BytesCalls (P : Program) (src dst : TypeId) (s : ByteArray) (w : World) (R : Ending → World → Prop) : Prop :=
  ∃ v w', (convert src dst (.string s)).run P w = .ok v w' ∧ R (.returned v) w'
theorem BytesCalls.mono {P : Program} {src dst : TypeId} {s : ByteArray} {w : World} {R R' : Ending → World → Prop} (h : BytesCalls P src dst s w R) (hr : ∀ e w', R e w' → R' e w') : BytesCalls P src dst s w R' :=
  let ⟨v, w', h1, h2⟩ := h; ⟨v, w', h1, hr _ _ h2⟩
theorem bytesOfS.calls (a0 : ByteArray) (r : List Int) (w : World) (h : bytesOfS.f a0 = some r) :
    BytesCalls Try.prog 9 22 a0 w fun e w' => ∃ v0_ : Value, e = .returned (v0_) ∧ Kd.V (Kd.int .u8) 5 w' w.heap.size (fun k_ => (w.heap.size ≤ k_)) v0_ r ∧ Below w.heap.size w w' := by
  unfold bytesOfS.f at h
  by_cases hs : a0.size ≤ 9223372036854775807
  case neg => rw [if_neg hs] at h; cases h
  rw [if_pos hs] at h
  obtain rfl := Option.some.inj h
  refine ⟨_, _, print_bytes 9 22 5 Try.underlying9 Try.underlying22 Try.underlying5 a0 w, _, rfl, ?_, bytes_below (Below.refl _ _) (Nat.le_refl _) 5 a0⟩
  have hcell : ∀ W' : World, W'.heap[w.heap.size]? = (Lib.bytesWorld w 5 a0).heap[w.heap.size]? → (Kd.int .u8).C W' (some ⟨w.heap.size, 0, none⟩) (bytesOf a0).length (bytesOf a0) := by
    intro W' hW
    have h0 := bytes_reads w 5 a0 hs
    have h1 : ReadsInt W' .u8 (some ⟨w.heap.size, 0, none⟩) (bytesOf a0).length (bytesOf a0) := by
      refine ⟨rfl, by rw [bytesOf_length]; exact hs, fun hp => ?_⟩
      obtain ⟨ad, e1, hc⟩ := h0.2.2 (by rw [bytesOf_length] at hp; exact hp)
      refine ⟨ad, e1, fun j hj => ?_⟩
      rw [← hc j (by rw [bytesOf_length] at hj; exact hj)]
      injection e1 with e1
      subst e1
      rw [add_plain]
      exact World.cell?_of_block (by exact hW)
    exact Kd.C_of_reads (d := (0 : Int)) (h1 := fun _ => rfl) h1
  refine ⟨some ⟨w.heap.size, 0, none⟩, grownCap w a0.size 0 5, by rw [bytesOf_length], by rw [bytesOf_length]; exact grownCap_ge _ _ _ _, fun W' hW => hcell W' (hW _ (Nat.le_refl _) ?_)⟩
  rw [Lib.bytesWorld_size]; omega
section
variable {P : Program} {ops : Array Oper} {Q : Exit → Act → World → Prop}
theorem gate_convert {rest : List Oper} {o : Oper} {a : Act} {W : World} {src dst : TypeId} {x : Operand} (_ho : o.op = .convert src dst x) (h : wpList P ops Q (o :: rest) a W) : wpList P ops Q (o :: rest) a W := h
theorem bytesGoesL_ {rest : List Oper} {oi : Oper} {a : Act} {w : World} (N : Option Tmp) (hd : oi.dst = N) (hg : oi.guard = none) {src dst : TypeId} {x : Operand} {s : ByteArray} (hop : oi.op = .convert src dst x) (hx : a.eval x = .string s)
    (h : BytesCalls P src dst s w fun e w' => ∃ v, e = .returned v ∧ wpList P ops Q rest (a.put N v) w') : wpList P ops Q (oi :: rest) a w := by
  obtain ⟨v, w', hr, v', he, hw⟩ := h
  injection he with he
  subst he
  subst hd
  refine Kd.event_run hg ?_ hw
  unfold execOp
  simp [hop, hx, hr]
theorem bytesGoes_ {oi : Oper} {N : Option Tmp} {a : Act} {w : World} {K : Act → World → Prop} {src dst : TypeId} {x : Operand} {s : ByteArray}
    (hw : Region.wanted oi (yielded ops a.tmps) = true) (hN : oi.dst = N) (hop : oi.op = .convert src dst x) (hx : a.eval x = .string s)
    (h : BytesCalls P src dst s w fun e w' => ∃ v, e = .returned v ∧ K (a.put N v) w') : if Region.wanted oi (yielded ops a.tmps) = true then Oper.wp P oi a w K Q else K (a.put N undef) w := by
  obtain ⟨v, w', hr, v', he, hk⟩ := h
  injection he with he
  subst he
  subst hN
  refine event_step hw ?_ hk
  unfold execOp
  simp [hop, hx, hr]
/-- What '&T{..}' comes to: a new block. -/
def BoxCalls (t : TypeId) (cs : Array Value) (w : World) (R : Ending → World → Prop) : Prop := R (.returned (.pointer (some ⟨w.heap.size, 0, none⟩))) (w.alloc (.cells cs t (0, 0)))
theorem BoxCalls.mono {t : TypeId} {cs : Array Value} {w : World} {R R' : Ending → World → Prop} (h : BoxCalls t cs w R) (hr : ∀ e w', R e w' → R' e w') : BoxCalls t cs w R' := hr _ _ h
theorem gate_box {rest : List Oper} {o : Oper} {a : Act} {W : World} {t : TypeId} {x : Operand} (_ho : o.op = .box t x) (h : wpList P ops Q (o :: rest) a W) : wpList P ops Q (o :: rest) a W := h
theorem boxGoesL_ {rest : List Oper} {oi : Oper} {a : Act} {w : World} (N : Option Tmp) (hd : oi.dst = N) (hg : oi.guard = none) {t : TypeId} {cs : Array Value}
    (hr : (execOp a.eval oi).run P w = .ok (.value (.pointer (some ⟨w.heap.size, 0, none⟩))) (w.alloc (.cells cs t (0, 0))))
    (h : BoxCalls t cs w fun e w' => ∃ v, e = .returned v ∧ wpList P ops Q rest (a.put N v) w') : wpList P ops Q (oi :: rest) a w := by
  obtain ⟨v', he, hw⟩ := h
  injection he with he
  subst he
  subst hd
  exact Kd.event_run hg hr hw
end
end Go.Proofs.Ytccbjchlcelkgaa.Pr
