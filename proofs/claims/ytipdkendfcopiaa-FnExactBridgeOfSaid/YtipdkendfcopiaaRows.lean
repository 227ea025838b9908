/-
  No cell of these rows narrows 'for every input' (looked for: loops, veiled, ifaces, maps, wideKeys, modest, calm, conditions, laid).
  DERIVED. THE GIVEN ROWS OF THIS SEAT. 14 by the template 'for every input the law returns true; each argument reads behind the call as it read before'; 0 by the template 'total and deterministic' (their statements: YtipdkendfcopiaaTotals.lean).
  GIVEN WITH THE SEED: the statements are not yours to turn. If you find one false, say at which input.
  Laid BY PROGRAM, IN A SANDBOX (cutbox-rows.mjs): the forced cells as the released guide's own fill.sh prints them over the translation f3f40f74d4442f40… (all of the seat's roots in one cut). By AI agents, Wed Nov 11 2026. No macro, syntax, notation, axiom, sorry.
-/
import Derived.Test.YtipdkendfcopiaaChecked
import GoSem.Claim
import GoSem.ClaimJoined
import GoSem.ClaimMapViews
import Derived.JoinedTies
import Derived.KernelRfl
namespace Go.Proofs.Ytipdkendfcopiaa
/- THE CELL 'sum', in the pinned program and in every row, IS THE sha256 OF THE DUMP (.gsa) THAT YtipdkendfcopiaaProg.lean LOADS. Nothing in Lean hashes anything: it is a label: what it is worth is what the hold of that sum in a sandbox is worth. -/
noncomputable def Try.pinned : Pinned := { name := "ytipdkendfcopiaa", sum := "f3f40f74d4442f4047222ed6a22442cbca176a4facc2c0ea294fae2a18fbf16a", checked := Try.checked }
namespace Rows
def none {H : Type} : Left H := { results := [], args := [] }

/-- 'laws.FnExactGoodLogEntry': WHATEVER THE INPUT: true; the input reads as it did. -/
def fnExactGoodLogEntrySpec : ChangeSpec := { name := "fnExactGoodLogEntry", fn := fun _ => fun
  | [d] => { results := [.lit (.bool true)], args := [d] }
  | _ => none }
def fnExactGoodLogEntryRow : OpenClaim := { program := "ytipdkendfcopiaa", sum := "f3f40f74d4442f4047222ed6a22442cbca176a4facc2c0ea294fae2a18fbf16a", func := "loop.example/g00036/laws.FnExactGoodLogEntry", spec := "fnExactGoodLogEntry", apart := false }
def FnExactGoodLogEntrySaid : Prop := fnExactGoodLogEntryRow.holds Try.pinned (OpenSpec.ofChange fnExactGoodLogEntrySpec)

/-- ITS FALSE NEIGHBOUR: 'it returns false'. Refute it at one input. -/
def fnExactGoodLogEntryWrong : ChangeSpec := { name := "fnExactGoodLogEntry", fn := fun _ => fun
  | [d] => { results := [.lit (.bool false)], args := [d] }
  | _ => none }
def FnExactGoodLogEntryWrongFalsely : Prop := fnExactGoodLogEntryRow.holds Try.pinned (OpenSpec.ofChange fnExactGoodLogEntryWrong)

/-- 'laws.FnExactCoverOf': WHATEVER THE INPUT: true; the input reads as it did. -/
def fnExactCoverOfSpec : ChangeSpec := { name := "fnExactCoverOf", fn := fun _ => fun
  | [d] => { results := [.lit (.bool true)], args := [d] }
  | _ => none }
def fnExactCoverOfRow : OpenClaim := { program := "ytipdkendfcopiaa", sum := "f3f40f74d4442f4047222ed6a22442cbca176a4facc2c0ea294fae2a18fbf16a", func := "loop.example/g00036/laws.FnExactCoverOf", spec := "fnExactCoverOf", unfollowed := true, recurses := true, apart := false }
def FnExactCoverOfSaid : Prop := fnExactCoverOfRow.holds Try.pinned (OpenSpec.ofChange fnExactCoverOfSpec)

/-- ITS FALSE NEIGHBOUR: 'it returns false'. Refute it at one input. -/
def fnExactCoverOfWrong : ChangeSpec := { name := "fnExactCoverOf", fn := fun _ => fun
  | [d] => { results := [.lit (.bool false)], args := [d] }
  | _ => none }
def FnExactCoverOfWrongFalsely : Prop := fnExactCoverOfRow.holds Try.pinned (OpenSpec.ofChange fnExactCoverOfWrong)

/-- 'laws.FnExactLeafOf': WHATEVER THE INPUT: true; the input reads as it did. -/
def fnExactLeafOfSpec : ChangeSpec := { name := "fnExactLeafOf", fn := fun _ => fun
  | [d] => { results := [.lit (.bool true)], args := [d] }
  | _ => none }
def fnExactLeafOfRow : OpenClaim := { program := "ytipdkendfcopiaa", sum := "f3f40f74d4442f4047222ed6a22442cbca176a4facc2c0ea294fae2a18fbf16a", func := "loop.example/g00036/laws.FnExactLeafOf", spec := "fnExactLeafOf", unfollowed := true, recurses := true, apart := false }
def FnExactLeafOfSaid : Prop := fnExactLeafOfRow.holds Try.pinned (OpenSpec.ofChange fnExactLeafOfSpec)

/-- ITS FALSE NEIGHBOUR: 'it returns false'. Refute it at one input. -/
def fnExactLeafOfWrong : ChangeSpec := { name := "fnExactLeafOf", fn := fun _ => fun
  | [d] => { results := [.lit (.bool false)], args := [d] }
  | _ => none }
def FnExactLeafOfWrongFalsely : Prop := fnExactLeafOfRow.holds Try.pinned (OpenSpec.ofChange fnExactLeafOfWrong)

/-- 'laws.FnExactRedact': WHATEVER THE INPUT: true; the input reads as it did. -/
def fnExactRedactSpec : ChangeSpec := { name := "fnExactRedact", fn := fun _ => fun
  | [d] => { results := [.lit (.bool true)], args := [d] }
  | _ => none }
def fnExactRedactRow : OpenClaim := { program := "ytipdkendfcopiaa", sum := "f3f40f74d4442f4047222ed6a22442cbca176a4facc2c0ea294fae2a18fbf16a", func := "loop.example/g00036/laws.FnExactRedact", spec := "fnExactRedact", unfollowed := true, recurses := true, apart := false }
def FnExactRedactSaid : Prop := fnExactRedactRow.holds Try.pinned (OpenSpec.ofChange fnExactRedactSpec)

/-- ITS FALSE NEIGHBOUR: 'it returns false'. Refute it at one input. -/
def fnExactRedactWrong : ChangeSpec := { name := "fnExactRedact", fn := fun _ => fun
  | [d] => { results := [.lit (.bool false)], args := [d] }
  | _ => none }
def FnExactRedactWrongFalsely : Prop := fnExactRedactRow.holds Try.pinned (OpenSpec.ofChange fnExactRedactWrong)

/-- 'laws.FnExactRootOf': WHATEVER THE INPUT: true; the input reads as it did. -/
def fnExactRootOfSpec : ChangeSpec := { name := "fnExactRootOf", fn := fun _ => fun
  | [d] => { results := [.lit (.bool true)], args := [d] }
  | _ => none }
def fnExactRootOfRow : OpenClaim := { program := "ytipdkendfcopiaa", sum := "f3f40f74d4442f4047222ed6a22442cbca176a4facc2c0ea294fae2a18fbf16a", func := "loop.example/g00036/laws.FnExactRootOf", spec := "fnExactRootOf", unfollowed := true, recurses := true, apart := false }
def FnExactRootOfSaid : Prop := fnExactRootOfRow.holds Try.pinned (OpenSpec.ofChange fnExactRootOfSpec)

/-- ITS FALSE NEIGHBOUR: 'it returns false'. Refute it at one input. -/
def fnExactRootOfWrong : ChangeSpec := { name := "fnExactRootOf", fn := fun _ => fun
  | [d] => { results := [.lit (.bool false)], args := [d] }
  | _ => none }
def FnExactRootOfWrongFalsely : Prop := fnExactRootOfRow.holds Try.pinned (OpenSpec.ofChange fnExactRootOfWrong)

/-- 'laws.FnExactPathOf': WHATEVER THE INPUT: true; the input reads as it did. -/
def fnExactPathOfSpec : ChangeSpec := { name := "fnExactPathOf", fn := fun _ => fun
  | [d1, d2] => { results := [.lit (.bool true)], args := [d1, d2] }
  | _ => none }
def fnExactPathOfRow : OpenClaim := { program := "ytipdkendfcopiaa", sum := "f3f40f74d4442f4047222ed6a22442cbca176a4facc2c0ea294fae2a18fbf16a", func := "loop.example/g00036/laws.FnExactPathOf", spec := "fnExactPathOf", unfollowed := true, recurses := true, apart := false }
def FnExactPathOfSaid : Prop := fnExactPathOfRow.holds Try.pinned (OpenSpec.ofChange fnExactPathOfSpec)

/-- ITS FALSE NEIGHBOUR: 'it returns false'. Refute it at one input. -/
def fnExactPathOfWrong : ChangeSpec := { name := "fnExactPathOf", fn := fun _ => fun
  | [d1, d2] => { results := [.lit (.bool false)], args := [d1, d2] }
  | _ => none }
def FnExactPathOfWrongFalsely : Prop := fnExactPathOfRow.holds Try.pinned (OpenSpec.ofChange fnExactPathOfWrong)

/-- 'laws.FnExactBridgeOf': WHATEVER THE INPUT: true; the input reads as it did. -/
def fnExactBridgeOfSpec : ChangeSpec := { name := "fnExactBridgeOf", fn := fun _ => fun
  | [d1, d2] => { results := [.lit (.bool true)], args := [d1, d2] }
  | _ => none }
def fnExactBridgeOfRow : OpenClaim := { program := "ytipdkendfcopiaa", sum := "f3f40f74d4442f4047222ed6a22442cbca176a4facc2c0ea294fae2a18fbf16a", func := "loop.example/g00036/laws.FnExactBridgeOf", spec := "fnExactBridgeOf", unfollowed := true, recurses := true, apart := false }
def FnExactBridgeOfSaid : Prop := fnExactBridgeOfRow.holds Try.pinned (OpenSpec.ofChange fnExactBridgeOfSpec)

/-- ITS FALSE NEIGHBOUR: 'it returns false'. Refute it at one input. -/
def fnExactBridgeOfWrong : ChangeSpec := { name := "fnExactBridgeOf", fn := fun _ => fun
  | [d1, d2] => { results := [.lit (.bool false)], args := [d1, d2] }
  | _ => none }
def FnExactBridgeOfWrongFalsely : Prop := fnExactBridgeOfRow.holds Try.pinned (OpenSpec.ofChange fnExactBridgeOfWrong)

/-- 'laws.FnExactCheckPath': WHATEVER THE INPUT: true; the input reads as it did. -/
def fnExactCheckPathSpec : ChangeSpec := { name := "fnExactCheckPath", fn := fun _ => fun
  | [d1, d2, d3, d4, d5] => { results := [.lit (.bool true)], args := [d1, d2, d3, d4, d5] }
  | _ => none }
def fnExactCheckPathRow : OpenClaim := { program := "ytipdkendfcopiaa", sum := "f3f40f74d4442f4047222ed6a22442cbca176a4facc2c0ea294fae2a18fbf16a", func := "loop.example/g00036/laws.FnExactCheckPath", spec := "fnExactCheckPath", unfollowed := true, recurses := true, apart := false }
def FnExactCheckPathSaid : Prop := fnExactCheckPathRow.holds Try.pinned (OpenSpec.ofChange fnExactCheckPathSpec)

/-- ITS FALSE NEIGHBOUR: 'it returns false'. Refute it at one input. -/
def fnExactCheckPathWrong : ChangeSpec := { name := "fnExactCheckPath", fn := fun _ => fun
  | [d1, d2, d3, d4, d5] => { results := [.lit (.bool false)], args := [d1, d2, d3, d4, d5] }
  | _ => none }
def FnExactCheckPathWrongFalsely : Prop := fnExactCheckPathRow.holds Try.pinned (OpenSpec.ofChange fnExactCheckPathWrong)

/-- 'laws.FnExactCheckBridge': WHATEVER THE INPUT: true; the input reads as it did. -/
def fnExactCheckBridgeSpec : ChangeSpec := { name := "fnExactCheckBridge", fn := fun _ => fun
  | [d1, d2, d3, d4, d5] => { results := [.lit (.bool true)], args := [d1, d2, d3, d4, d5] }
  | _ => none }
def fnExactCheckBridgeRow : OpenClaim := { program := "ytipdkendfcopiaa", sum := "f3f40f74d4442f4047222ed6a22442cbca176a4facc2c0ea294fae2a18fbf16a", func := "loop.example/g00036/laws.FnExactCheckBridge", spec := "fnExactCheckBridge", unfollowed := true, recurses := true, apart := false }
def FnExactCheckBridgeSaid : Prop := fnExactCheckBridgeRow.holds Try.pinned (OpenSpec.ofChange fnExactCheckBridgeSpec)

/-- ITS FALSE NEIGHBOUR: 'it returns false'. Refute it at one input. -/
def fnExactCheckBridgeWrong : ChangeSpec := { name := "fnExactCheckBridge", fn := fun _ => fun
  | [d1, d2, d3, d4, d5] => { results := [.lit (.bool false)], args := [d1, d2, d3, d4, d5] }
  | _ => none }
def FnExactCheckBridgeWrongFalsely : Prop := fnExactCheckBridgeRow.holds Try.pinned (OpenSpec.ofChange fnExactCheckBridgeWrong)

/-- 'laws.FnExactCheckHead': WHATEVER THE INPUT: true; the input reads as it did. -/
def fnExactCheckHeadSpec : ChangeSpec := { name := "fnExactCheckHead", fn := fun _ => fun
  | [d1, d2] => { results := [.lit (.bool true)], args := [d1, d2] }
  | _ => none }
def fnExactCheckHeadRow : OpenClaim := { program := "ytipdkendfcopiaa", sum := "f3f40f74d4442f4047222ed6a22442cbca176a4facc2c0ea294fae2a18fbf16a", func := "loop.example/g00036/laws.FnExactCheckHead", spec := "fnExactCheckHead", unfollowed := true, recurses := true, apart := false }
def FnExactCheckHeadSaid : Prop := fnExactCheckHeadRow.holds Try.pinned (OpenSpec.ofChange fnExactCheckHeadSpec)

/-- ITS FALSE NEIGHBOUR: 'it returns false'. Refute it at one input. -/
def fnExactCheckHeadWrong : ChangeSpec := { name := "fnExactCheckHead", fn := fun _ => fun
  | [d1, d2] => { results := [.lit (.bool false)], args := [d1, d2] }
  | _ => none }
def FnExactCheckHeadWrongFalsely : Prop := fnExactCheckHeadRow.holds Try.pinned (OpenSpec.ofChange fnExactCheckHeadWrong)

/-- 'laws.FnExactSignHead': WHATEVER THE INPUT: true; the input reads as it did. -/
def fnExactSignHeadSpec : ChangeSpec := { name := "fnExactSignHead", fn := fun _ => fun
  | [d1, d2] => { results := [.lit (.bool true)], args := [d1, d2] }
  | _ => none }
def fnExactSignHeadRow : OpenClaim := { program := "ytipdkendfcopiaa", sum := "f3f40f74d4442f4047222ed6a22442cbca176a4facc2c0ea294fae2a18fbf16a", func := "loop.example/g00036/laws.FnExactSignHead", spec := "fnExactSignHead", unfollowed := true, recurses := true, apart := false }
def FnExactSignHeadSaid : Prop := fnExactSignHeadRow.holds Try.pinned (OpenSpec.ofChange fnExactSignHeadSpec)

/-- ITS FALSE NEIGHBOUR: 'it returns false'. Refute it at one input. -/
def fnExactSignHeadWrong : ChangeSpec := { name := "fnExactSignHead", fn := fun _ => fun
  | [d1, d2] => { results := [.lit (.bool false)], args := [d1, d2] }
  | _ => none }
def FnExactSignHeadWrongFalsely : Prop := fnExactSignHeadRow.holds Try.pinned (OpenSpec.ofChange fnExactSignHeadWrong)

/-- 'laws.FnRedacted': WHATEVER THE INPUT: true; the input reads as it did. -/
def fnRedactedSpec : ChangeSpec := { name := "fnRedacted", fn := fun _ => fun
  | [d1, d2] => { results := [.lit (.bool true)], args := [d1, d2] }
  | _ => none }
def fnRedactedRow : OpenClaim := { program := "ytipdkendfcopiaa", sum := "f3f40f74d4442f4047222ed6a22442cbca176a4facc2c0ea294fae2a18fbf16a", func := "loop.example/g00036/laws.FnRedacted", spec := "fnRedacted", unfollowed := true, recurses := true, apart := false }
def FnRedactedSaid : Prop := fnRedactedRow.holds Try.pinned (OpenSpec.ofChange fnRedactedSpec)

/-- ITS FALSE NEIGHBOUR: 'it returns false'. Refute it at one input. -/
def fnRedactedWrong : ChangeSpec := { name := "fnRedacted", fn := fun _ => fun
  | [d1, d2] => { results := [.lit (.bool false)], args := [d1, d2] }
  | _ => none }
def FnRedactedWrongFalsely : Prop := fnRedactedRow.holds Try.pinned (OpenSpec.ofChange fnRedactedWrong)

/-- 'laws.FnHeads': WHATEVER THE INPUT: true; the input reads as it did. -/
def fnHeadsSpec : ChangeSpec := { name := "fnHeads", fn := fun _ => fun
  | [d] => { results := [.lit (.bool true)], args := [d] }
  | _ => none }
def fnHeadsRow : OpenClaim := { program := "ytipdkendfcopiaa", sum := "f3f40f74d4442f4047222ed6a22442cbca176a4facc2c0ea294fae2a18fbf16a", func := "loop.example/g00036/laws.FnHeads", spec := "fnHeads", unfollowed := true, recurses := true, apart := false }
def FnHeadsSaid : Prop := fnHeadsRow.holds Try.pinned (OpenSpec.ofChange fnHeadsSpec)

/-- ITS FALSE NEIGHBOUR: 'it returns false'. Refute it at one input. -/
def fnHeadsWrong : ChangeSpec := { name := "fnHeads", fn := fun _ => fun
  | [d] => { results := [.lit (.bool false)], args := [d] }
  | _ => none }
def FnHeadsWrongFalsely : Prop := fnHeadsRow.holds Try.pinned (OpenSpec.ofChange fnHeadsWrong)

/-- 'laws.FnLogged': WHATEVER THE INPUT: true; the input reads as it did. -/
def fnLoggedSpec : ChangeSpec := { name := "fnLogged", fn := fun _ => fun
  | [d] => { results := [.lit (.bool true)], args := [d] }
  | _ => none }
def fnLoggedRow : OpenClaim := { program := "ytipdkendfcopiaa", sum := "f3f40f74d4442f4047222ed6a22442cbca176a4facc2c0ea294fae2a18fbf16a", func := "loop.example/g00036/laws.FnLogged", spec := "fnLogged", unfollowed := true, recurses := true, apart := false }
def FnLoggedSaid : Prop := fnLoggedRow.holds Try.pinned (OpenSpec.ofChange fnLoggedSpec)

/-- ITS FALSE NEIGHBOUR: 'it returns false'. Refute it at one input. -/
def fnLoggedWrong : ChangeSpec := { name := "fnLogged", fn := fun _ => fun
  | [d] => { results := [.lit (.bool false)], args := [d] }
  | _ => none }
def FnLoggedWrongFalsely : Prop := fnLoggedRow.holds Try.pinned (OpenSpec.ofChange fnLoggedWrong)

/- THE SECOND FORM. 'bulk': how many values and letters a reading holds, each counted each time it is reached (what is shared counts as often as it is met; a slice's spare places count too). A statement '..UptoSaid' is the law's where the arguments, and the package variables that the reading takes, are together of bulk at most 1048576: NARROWER than '..Said'. Prove '..Said' where nothing that the law and all that it calls make is longer than what came in: it says more and counts as full. Else prove '..UptoSaid'. A law counts once. -/
mutual
def uptoBulk {H : Type} : DataW H → Nat
  | .lit (.string bytes) => bytes.length + 1
  | .lit _ => 1
  | .nil => 1
  | .ptr d => uptoBulk d + 1
  | .slice elems spare => uptoBulkAll elems + uptoBulkAll spare + 1
  | .agg parts => uptoBulkAll parts + 1
  | .iface _ d => uptoBulk d + 1
  | .map entries => uptoBulkEntries entries + 1
  | .held _ => 1
def uptoBulkAll {H : Type} : List (DataW H) → Nat
  | [] => 0
  | d :: r => uptoBulk d + uptoBulkAll r
def uptoBulkEntries {H : Type} : List (Lit × DataW H) → Nat
  | [] => 0
  | x :: r => uptoBulkEntry x + uptoBulkEntries r
def uptoBulkEntry {H : Type} : Lit × DataW H → Nat
  | (.string bytes, d) => bytes.length + uptoBulk d + 1
  | (_, d) => uptoBulk d + 1
 end
def uptoSmall : (H : Type) → List (DataW H) → Bool := fun _ ds => decide (uptoBulkAll ds ≤ 1048576)
def OpenSpec.upto (s : _root_.Go.ChangeSpec) : _root_.Go.OpenSpec := { _root_.Go.OpenSpec.ofChange s with cond := some uptoSmall }

/-- 'laws.FnExactGoodLogEntry', WHERE WHAT IT READS IS OF BULK AT MOST 1048576: true; the input reads as it did. -/
def fnExactGoodLogEntryUptoRow : OpenClaim := { program := "ytipdkendfcopiaa", sum := "f3f40f74d4442f4047222ed6a22442cbca176a4facc2c0ea294fae2a18fbf16a", func := "loop.example/g00036/laws.FnExactGoodLogEntry", spec := "fnExactGoodLogEntry", apart := false, narrowed := true }
def FnExactGoodLogEntryUptoSaid : Prop := fnExactGoodLogEntryUptoRow.holds Try.pinned (OpenSpec.upto fnExactGoodLogEntrySpec)

/-- 'laws.FnExactCoverOf', WHERE WHAT IT READS IS OF BULK AT MOST 1048576: true; the input reads as it did. -/
def fnExactCoverOfUptoRow : OpenClaim := { program := "ytipdkendfcopiaa", sum := "f3f40f74d4442f4047222ed6a22442cbca176a4facc2c0ea294fae2a18fbf16a", func := "loop.example/g00036/laws.FnExactCoverOf", spec := "fnExactCoverOf", unfollowed := true, recurses := true, apart := false, narrowed := true }
def FnExactCoverOfUptoSaid : Prop := fnExactCoverOfUptoRow.holds Try.pinned (OpenSpec.upto fnExactCoverOfSpec)

/-- 'laws.FnExactLeafOf', WHERE WHAT IT READS IS OF BULK AT MOST 1048576: true; the input reads as it did. -/
def fnExactLeafOfUptoRow : OpenClaim := { program := "ytipdkendfcopiaa", sum := "f3f40f74d4442f4047222ed6a22442cbca176a4facc2c0ea294fae2a18fbf16a", func := "loop.example/g00036/laws.FnExactLeafOf", spec := "fnExactLeafOf", unfollowed := true, recurses := true, apart := false, narrowed := true }
def FnExactLeafOfUptoSaid : Prop := fnExactLeafOfUptoRow.holds Try.pinned (OpenSpec.upto fnExactLeafOfSpec)

/-- 'laws.FnExactRedact', WHERE WHAT IT READS IS OF BULK AT MOST 1048576: true; the input reads as it did. -/
def fnExactRedactUptoRow : OpenClaim := { program := "ytipdkendfcopiaa", sum := "f3f40f74d4442f4047222ed6a22442cbca176a4facc2c0ea294fae2a18fbf16a", func := "loop.example/g00036/laws.FnExactRedact", spec := "fnExactRedact", unfollowed := true, recurses := true, apart := false, narrowed := true }
def FnExactRedactUptoSaid : Prop := fnExactRedactUptoRow.holds Try.pinned (OpenSpec.upto fnExactRedactSpec)

/-- 'laws.FnExactRootOf', WHERE WHAT IT READS IS OF BULK AT MOST 1048576: true; the input reads as it did. -/
def fnExactRootOfUptoRow : OpenClaim := { program := "ytipdkendfcopiaa", sum := "f3f40f74d4442f4047222ed6a22442cbca176a4facc2c0ea294fae2a18fbf16a", func := "loop.example/g00036/laws.FnExactRootOf", spec := "fnExactRootOf", unfollowed := true, recurses := true, apart := false, narrowed := true }
def FnExactRootOfUptoSaid : Prop := fnExactRootOfUptoRow.holds Try.pinned (OpenSpec.upto fnExactRootOfSpec)

/-- 'laws.FnExactPathOf', WHERE WHAT IT READS IS OF BULK AT MOST 1048576: true; the input reads as it did. -/
def fnExactPathOfUptoRow : OpenClaim := { program := "ytipdkendfcopiaa", sum := "f3f40f74d4442f4047222ed6a22442cbca176a4facc2c0ea294fae2a18fbf16a", func := "loop.example/g00036/laws.FnExactPathOf", spec := "fnExactPathOf", unfollowed := true, recurses := true, apart := false, narrowed := true }
def FnExactPathOfUptoSaid : Prop := fnExactPathOfUptoRow.holds Try.pinned (OpenSpec.upto fnExactPathOfSpec)

/-- 'laws.FnExactBridgeOf', WHERE WHAT IT READS IS OF BULK AT MOST 1048576: true; the input reads as it did. -/
def fnExactBridgeOfUptoRow : OpenClaim := { program := "ytipdkendfcopiaa", sum := "f3f40f74d4442f4047222ed6a22442cbca176a4facc2c0ea294fae2a18fbf16a", func := "loop.example/g00036/laws.FnExactBridgeOf", spec := "fnExactBridgeOf", unfollowed := true, recurses := true, apart := false, narrowed := true }
def FnExactBridgeOfUptoSaid : Prop := fnExactBridgeOfUptoRow.holds Try.pinned (OpenSpec.upto fnExactBridgeOfSpec)

/-- 'laws.FnExactCheckPath', WHERE WHAT IT READS IS OF BULK AT MOST 1048576: true; the input reads as it did. -/
def fnExactCheckPathUptoRow : OpenClaim := { program := "ytipdkendfcopiaa", sum := "f3f40f74d4442f4047222ed6a22442cbca176a4facc2c0ea294fae2a18fbf16a", func := "loop.example/g00036/laws.FnExactCheckPath", spec := "fnExactCheckPath", unfollowed := true, recurses := true, apart := false, narrowed := true }
def FnExactCheckPathUptoSaid : Prop := fnExactCheckPathUptoRow.holds Try.pinned (OpenSpec.upto fnExactCheckPathSpec)

/-- 'laws.FnExactCheckBridge', WHERE WHAT IT READS IS OF BULK AT MOST 1048576: true; the input reads as it did. -/
def fnExactCheckBridgeUptoRow : OpenClaim := { program := "ytipdkendfcopiaa", sum := "f3f40f74d4442f4047222ed6a22442cbca176a4facc2c0ea294fae2a18fbf16a", func := "loop.example/g00036/laws.FnExactCheckBridge", spec := "fnExactCheckBridge", unfollowed := true, recurses := true, apart := false, narrowed := true }
def FnExactCheckBridgeUptoSaid : Prop := fnExactCheckBridgeUptoRow.holds Try.pinned (OpenSpec.upto fnExactCheckBridgeSpec)

/-- 'laws.FnExactCheckHead', WHERE WHAT IT READS IS OF BULK AT MOST 1048576: true; the input reads as it did. -/
def fnExactCheckHeadUptoRow : OpenClaim := { program := "ytipdkendfcopiaa", sum := "f3f40f74d4442f4047222ed6a22442cbca176a4facc2c0ea294fae2a18fbf16a", func := "loop.example/g00036/laws.FnExactCheckHead", spec := "fnExactCheckHead", unfollowed := true, recurses := true, apart := false, narrowed := true }
def FnExactCheckHeadUptoSaid : Prop := fnExactCheckHeadUptoRow.holds Try.pinned (OpenSpec.upto fnExactCheckHeadSpec)

/-- 'laws.FnExactSignHead', WHERE WHAT IT READS IS OF BULK AT MOST 1048576: true; the input reads as it did. -/
def fnExactSignHeadUptoRow : OpenClaim := { program := "ytipdkendfcopiaa", sum := "f3f40f74d4442f4047222ed6a22442cbca176a4facc2c0ea294fae2a18fbf16a", func := "loop.example/g00036/laws.FnExactSignHead", spec := "fnExactSignHead", unfollowed := true, recurses := true, apart := false, narrowed := true }
def FnExactSignHeadUptoSaid : Prop := fnExactSignHeadUptoRow.holds Try.pinned (OpenSpec.upto fnExactSignHeadSpec)

/-- 'laws.FnRedacted', WHERE WHAT IT READS IS OF BULK AT MOST 1048576: true; the input reads as it did. -/
def fnRedactedUptoRow : OpenClaim := { program := "ytipdkendfcopiaa", sum := "f3f40f74d4442f4047222ed6a22442cbca176a4facc2c0ea294fae2a18fbf16a", func := "loop.example/g00036/laws.FnRedacted", spec := "fnRedacted", unfollowed := true, recurses := true, apart := false, narrowed := true }
def FnRedactedUptoSaid : Prop := fnRedactedUptoRow.holds Try.pinned (OpenSpec.upto fnRedactedSpec)

/-- 'laws.FnHeads', WHERE WHAT IT READS IS OF BULK AT MOST 1048576: true; the input reads as it did. -/
def fnHeadsUptoRow : OpenClaim := { program := "ytipdkendfcopiaa", sum := "f3f40f74d4442f4047222ed6a22442cbca176a4facc2c0ea294fae2a18fbf16a", func := "loop.example/g00036/laws.FnHeads", spec := "fnHeads", unfollowed := true, recurses := true, apart := false, narrowed := true }
def FnHeadsUptoSaid : Prop := fnHeadsUptoRow.holds Try.pinned (OpenSpec.upto fnHeadsSpec)

/-- 'laws.FnLogged', WHERE WHAT IT READS IS OF BULK AT MOST 1048576: true; the input reads as it did. -/
def fnLoggedUptoRow : OpenClaim := { program := "ytipdkendfcopiaa", sum := "f3f40f74d4442f4047222ed6a22442cbca176a4facc2c0ea294fae2a18fbf16a", func := "loop.example/g00036/laws.FnLogged", spec := "fnLogged", unfollowed := true, recurses := true, apart := false, narrowed := true }
def FnLoggedUptoSaid : Prop := fnLoggedUptoRow.holds Try.pinned (OpenSpec.upto fnLoggedSpec)

end Rows
end Go.Proofs.Ytipdkendfcopiaa
