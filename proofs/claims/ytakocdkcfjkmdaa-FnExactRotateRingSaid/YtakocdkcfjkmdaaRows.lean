/-
  No cell of these rows narrows 'for every input' (looked for: loops, veiled, ifaces, maps, wideKeys, modest, calm, conditions, laid).
  DERIVED. THE GIVEN ROWS OF THIS SEAT. 5 by the template 'for every input the law returns true; each argument reads behind the call as it read before'; 0 by the template 'total and deterministic' (their statements: YtakocdkcfjkmdaaTotals.lean).
  GIVEN WITH THE SEED: the statements are not yours to turn. If you find one false, say at which input.
  Laid BY PROGRAM, IN A SANDBOX (cutbox-rows.mjs): the forced cells as the released guide's own fill.sh prints them over the translation d53f454ae197554c… (all of the seat's roots in one cut). By AI agents, Wed Nov 11 2026. No macro, syntax, notation, axiom, sorry.
-/
import Derived.Test.YtakocdkcfjkmdaaChecked
import GoSem.Claim
import GoSem.ClaimJoined
import GoSem.ClaimMapViews
import Derived.JoinedTies
import Derived.KernelRfl
namespace Go.Proofs.Ytakocdkcfjkmdaa
/- THE CELL 'sum', in the pinned program and in every row, IS THE sha256 OF THE DUMP (.gsa) THAT YtakocdkcfjkmdaaProg.lean LOADS. Nothing in Lean hashes anything: it is a label: what it is worth is what the hold of that sum in a sandbox is worth. -/
noncomputable def Try.pinned : Pinned := { name := "ytakocdkcfjkmdaa", sum := "d53f454ae197554c2e32fee58264e395b2e977f3945a73c35258d55e4cbf975b", checked := Try.checked }
namespace Rows
def none {H : Type} : Left H := { results := [], args := [] }

/-- 'laws.FnExactGoodSessConf': WHATEVER THE INPUT: true; the input reads as it did. -/
def fnExactGoodSessConfSpec : ChangeSpec := { name := "fnExactGoodSessConf", fn := fun _ => fun
  | [d] => { results := [.lit (.bool true)], args := [d] }
  | _ => none }
def fnExactGoodSessConfRow : OpenClaim := { program := "ytakocdkcfjkmdaa", sum := "d53f454ae197554c2e32fee58264e395b2e977f3945a73c35258d55e4cbf975b", func := "loop.example/g00036/laws.FnExactGoodSessConf", spec := "fnExactGoodSessConf", apart := false }
def FnExactGoodSessConfSaid : Prop := fnExactGoodSessConfRow.holds Try.pinned (OpenSpec.ofChange fnExactGoodSessConfSpec)

/-- ITS FALSE NEIGHBOUR: 'it returns false'. Refute it at one input. -/
def fnExactGoodSessConfWrong : ChangeSpec := { name := "fnExactGoodSessConf", fn := fun _ => fun
  | [d] => { results := [.lit (.bool false)], args := [d] }
  | _ => none }
def FnExactGoodSessConfWrongFalsely : Prop := fnExactGoodSessConfRow.holds Try.pinned (OpenSpec.ofChange fnExactGoodSessConfWrong)

/-- 'laws.FnExactGoodRing': WHATEVER THE INPUT: true; the input reads as it did. -/
def fnExactGoodRingSpec : ChangeSpec := { name := "fnExactGoodRing", fn := fun _ => fun
  | [d] => { results := [.lit (.bool true)], args := [d] }
  | _ => none }
def fnExactGoodRingRow : OpenClaim := { program := "ytakocdkcfjkmdaa", sum := "d53f454ae197554c2e32fee58264e395b2e977f3945a73c35258d55e4cbf975b", func := "loop.example/g00036/laws.FnExactGoodRing", spec := "fnExactGoodRing", apart := false }
def FnExactGoodRingSaid : Prop := fnExactGoodRingRow.holds Try.pinned (OpenSpec.ofChange fnExactGoodRingSpec)

/-- ITS FALSE NEIGHBOUR: 'it returns false'. Refute it at one input. -/
def fnExactGoodRingWrong : ChangeSpec := { name := "fnExactGoodRing", fn := fun _ => fun
  | [d] => { results := [.lit (.bool false)], args := [d] }
  | _ => none }
def FnExactGoodRingWrongFalsely : Prop := fnExactGoodRingRow.holds Try.pinned (OpenSpec.ofChange fnExactGoodRingWrong)

/-- 'laws.FnExactGoodServer': WHATEVER THE INPUT: true; the input reads as it did. -/
def fnExactGoodServerSpec : ChangeSpec := { name := "fnExactGoodServer", fn := fun _ => fun
  | [d] => { results := [.lit (.bool true)], args := [d] }
  | _ => none }
def fnExactGoodServerRow : OpenClaim := { program := "ytakocdkcfjkmdaa", sum := "d53f454ae197554c2e32fee58264e395b2e977f3945a73c35258d55e4cbf975b", func := "loop.example/g00036/laws.FnExactGoodServer", spec := "fnExactGoodServer", unfollowed := true, recurses := true, apart := false }
def FnExactGoodServerSaid : Prop := fnExactGoodServerRow.holds Try.pinned (OpenSpec.ofChange fnExactGoodServerSpec)

/-- ITS FALSE NEIGHBOUR: 'it returns false'. Refute it at one input. -/
def fnExactGoodServerWrong : ChangeSpec := { name := "fnExactGoodServer", fn := fun _ => fun
  | [d] => { results := [.lit (.bool false)], args := [d] }
  | _ => none }
def FnExactGoodServerWrongFalsely : Prop := fnExactGoodServerRow.holds Try.pinned (OpenSpec.ofChange fnExactGoodServerWrong)

/-- 'laws.FnExactRotateRing': WHATEVER THE INPUT: true; the input reads as it did. -/
def fnExactRotateRingSpec : ChangeSpec := { name := "fnExactRotateRing", fn := fun _ => fun
  | [d1, d2, d3, d4] => { results := [.lit (.bool true)], args := [d1, d2, d3, d4] }
  | _ => none }
def fnExactRotateRingRow : OpenClaim := { program := "ytakocdkcfjkmdaa", sum := "d53f454ae197554c2e32fee58264e395b2e977f3945a73c35258d55e4cbf975b", func := "loop.example/g00036/laws.FnExactRotateRing", spec := "fnExactRotateRing", unfollowed := true, recurses := true, apart := false }
def FnExactRotateRingSaid : Prop := fnExactRotateRingRow.holds Try.pinned (OpenSpec.ofChange fnExactRotateRingSpec)

/-- ITS FALSE NEIGHBOUR: 'it returns false'. Refute it at one input. -/
def fnExactRotateRingWrong : ChangeSpec := { name := "fnExactRotateRing", fn := fun _ => fun
  | [d1, d2, d3, d4] => { results := [.lit (.bool false)], args := [d1, d2, d3, d4] }
  | _ => none }
def FnExactRotateRingWrongFalsely : Prop := fnExactRotateRingRow.holds Try.pinned (OpenSpec.ofChange fnExactRotateRingWrong)

/-- 'laws.FnExactGoodAttack': WHATEVER THE INPUT: true; the input reads as it did. -/
def fnExactGoodAttackSpec : ChangeSpec := { name := "fnExactGoodAttack", fn := fun _ => fun
  | [d] => { results := [.lit (.bool true)], args := [d] }
  | _ => none }
def fnExactGoodAttackRow : OpenClaim := { program := "ytakocdkcfjkmdaa", sum := "d53f454ae197554c2e32fee58264e395b2e977f3945a73c35258d55e4cbf975b", func := "loop.example/g00036/laws.FnExactGoodAttack", spec := "fnExactGoodAttack", unfollowed := true, recurses := true, apart := false }
def FnExactGoodAttackSaid : Prop := fnExactGoodAttackRow.holds Try.pinned (OpenSpec.ofChange fnExactGoodAttackSpec)

/-- ITS FALSE NEIGHBOUR: 'it returns false'. Refute it at one input. -/
def fnExactGoodAttackWrong : ChangeSpec := { name := "fnExactGoodAttack", fn := fun _ => fun
  | [d] => { results := [.lit (.bool false)], args := [d] }
  | _ => none }
def FnExactGoodAttackWrongFalsely : Prop := fnExactGoodAttackRow.holds Try.pinned (OpenSpec.ofChange fnExactGoodAttackWrong)

/- THE SECOND FORM. 'bulk': how many values and letters a reading holds, each counted each time it is reached (what is shared counts as often as it is met; a slice's spare places count too). A statement '..UptoSaid' is the law's where the arguments, and the package variables that the reading takes, are together of bulk at most 1048576: NARROWER than '..Said'. Prove '..Said' where nothing that the law and all that it calls make is longer than what came in: it says more and counts as full. Else prove '..UptoSaid'. A law counts once. -/
mutual
def uptoBulk {H : Type} : DataW H → Nat
  | .lit (.string bytes) => bytes.length + 1
  | .lit _ => 1
  | .nil => 1
  | .ptr d => uptoBulk d + 1
  | .slice elems spare => uptoBulkAll elems + uptoBulkAll spare + 1
  | .agg parts => uptoBulkAll parts + 1
  | .iface _ d => uptoBulk d + 1
  | .map entries => uptoBulkEntries entries + 1
  | .held _ => 1
def uptoBulkAll {H : Type} : List (DataW H) → Nat
  | [] => 0
  | d :: r => uptoBulk d + uptoBulkAll r
def uptoBulkEntries {H : Type} : List (Lit × DataW H) → Nat
  | [] => 0
  | x :: r => uptoBulkEntry x + uptoBulkEntries r
def uptoBulkEntry {H : Type} : Lit × DataW H → Nat
  | (.string bytes, d) => bytes.length + uptoBulk d + 1
  | (_, d) => uptoBulk d + 1
 end
def uptoSmall : (H : Type) → List (DataW H) → Bool := fun _ ds => decide (uptoBulkAll ds ≤ 1048576)
def OpenSpec.upto (s : _root_.Go.ChangeSpec) : _root_.Go.OpenSpec := { _root_.Go.OpenSpec.ofChange s with cond := some uptoSmall }

/-- 'laws.FnExactGoodSessConf', WHERE WHAT IT READS IS OF BULK AT MOST 1048576: true; the input reads as it did. -/
def fnExactGoodSessConfUptoRow : OpenClaim := { program := "ytakocdkcfjkmdaa", sum := "d53f454ae197554c2e32fee58264e395b2e977f3945a73c35258d55e4cbf975b", func := "loop.example/g00036/laws.FnExactGoodSessConf", spec := "fnExactGoodSessConf", apart := false, narrowed := true }
def FnExactGoodSessConfUptoSaid : Prop := fnExactGoodSessConfUptoRow.holds Try.pinned (OpenSpec.upto fnExactGoodSessConfSpec)

/-- 'laws.FnExactGoodRing', WHERE WHAT IT READS IS OF BULK AT MOST 1048576: true; the input reads as it did. -/
def fnExactGoodRingUptoRow : OpenClaim := { program := "ytakocdkcfjkmdaa", sum := "d53f454ae197554c2e32fee58264e395b2e977f3945a73c35258d55e4cbf975b", func := "loop.example/g00036/laws.FnExactGoodRing", spec := "fnExactGoodRing", apart := false, narrowed := true }
def FnExactGoodRingUptoSaid : Prop := fnExactGoodRingUptoRow.holds Try.pinned (OpenSpec.upto fnExactGoodRingSpec)

/-- 'laws.FnExactGoodServer', WHERE WHAT IT READS IS OF BULK AT MOST 1048576: true; the input reads as it did. -/
def fnExactGoodServerUptoRow : OpenClaim := { program := "ytakocdkcfjkmdaa", sum := "d53f454ae197554c2e32fee58264e395b2e977f3945a73c35258d55e4cbf975b", func := "loop.example/g00036/laws.FnExactGoodServer", spec := "fnExactGoodServer", unfollowed := true, recurses := true, apart := false, narrowed := true }
def FnExactGoodServerUptoSaid : Prop := fnExactGoodServerUptoRow.holds Try.pinned (OpenSpec.upto fnExactGoodServerSpec)

/-- 'laws.FnExactRotateRing', WHERE WHAT IT READS IS OF BULK AT MOST 1048576: true; the input reads as it did. -/
def fnExactRotateRingUptoRow : OpenClaim := { program := "ytakocdkcfjkmdaa", sum := "d53f454ae197554c2e32fee58264e395b2e977f3945a73c35258d55e4cbf975b", func := "loop.example/g00036/laws.FnExactRotateRing", spec := "fnExactRotateRing", unfollowed := true, recurses := true, apart := false, narrowed := true }
def FnExactRotateRingUptoSaid : Prop := fnExactRotateRingUptoRow.holds Try.pinned (OpenSpec.upto fnExactRotateRingSpec)

/-- 'laws.FnExactGoodAttack', WHERE WHAT IT READS IS OF BULK AT MOST 1048576: true; the input reads as it did. -/
def fnExactGoodAttackUptoRow : OpenClaim := { program := "ytakocdkcfjkmdaa", sum := "d53f454ae197554c2e32fee58264e395b2e977f3945a73c35258d55e4cbf975b", func := "loop.example/g00036/laws.FnExactGoodAttack", spec := "fnExactGoodAttack", unfollowed := true, recurses := true, apart := false, narrowed := true }
def FnExactGoodAttackUptoSaid : Prop := fnExactGoodAttackUptoRow.holds Try.pinned (OpenSpec.upto fnExactGoodAttackSpec)

end Rows
end Go.Proofs.Ytakocdkcfjkmdaa
