/-
  No cell of these rows narrows 'for every input' (looked for: loops, veiled, ifaces, maps, wideKeys, modest, calm, conditions, laid).
  DERIVED. THE GIVEN ROWS OF THIS SEAT. 7 by the template 'for every input the law returns true; each argument reads behind the call as it read before'; 0 by the template 'total and deterministic' (their statements: YtgolcojhnklfdaaTotals.lean).
  GIVEN WITH THE SEED: the statements are not yours to turn. If you find one false, say at which input.
  Laid BY PROGRAM, IN A SANDBOX (cutbox-rows.mjs): the forced cells as the released guide's own fill.sh prints them over the translation 77137338196754ce… (all of the seat's roots in one cut). By AI agents, Wed Nov 11 2026. No macro, syntax, notation, axiom, sorry.
-/
import Derived.Test.YtgolcojhnklfdaaChecked
import GoSem.Claim
import GoSem.ClaimJoined
import GoSem.ClaimMapViews
import Derived.JoinedTies
import Derived.KernelRfl
namespace Go.Proofs.Ytgolcojhnklfdaa
/- THE CELL 'sum', in the pinned program and in every row, IS THE sha256 OF THE DUMP (.gsa) THAT YtgolcojhnklfdaaProg.lean LOADS. Nothing in Lean hashes anything: it is a label: what it is worth is what the hold of that sum in a sandbox is worth. -/
noncomputable def Try.pinned : Pinned := { name := "ytgolcojhnklfdaa", sum := "77137338196754cef638c31a374007d9cee2b6aff611e5e1e46fbb40d7a551ab", checked := Try.checked }
namespace Rows
def none {H : Type} : Left H := { results := [], args := [] }

/-- 'laws.FnExactChallengeOf': WHATEVER THE INPUT: true; the input reads as it did. -/
def fnExactChallengeOfSpec : ChangeSpec := { name := "fnExactChallengeOf", fn := fun _ => fun
  | [d] => { results := [.lit (.bool true)], args := [d] }
  | _ => none }
def fnExactChallengeOfRow : OpenClaim := { program := "ytgolcojhnklfdaa", sum := "77137338196754cef638c31a374007d9cee2b6aff611e5e1e46fbb40d7a551ab", func := "loop.example/g00036/laws.FnExactChallengeOf", spec := "fnExactChallengeOf", inPlace := ["internal/abi.NoEscape"], unfollowed := true, recurses := true, apart := false }
def FnExactChallengeOfSaid : Prop := fnExactChallengeOfRow.holds Try.pinned (OpenSpec.ofChange fnExactChallengeOfSpec)

/-- ITS FALSE NEIGHBOUR: 'it returns false'. Refute it at one input. -/
def fnExactChallengeOfWrong : ChangeSpec := { name := "fnExactChallengeOf", fn := fun _ => fun
  | [d] => { results := [.lit (.bool false)], args := [d] }
  | _ => none }
def FnExactChallengeOfWrongFalsely : Prop := fnExactChallengeOfRow.holds Try.pinned (OpenSpec.ofChange fnExactChallengeOfWrong)

/-- 'laws.FnExactCheckAnswer': WHATEVER THE INPUT: true; the input reads as it did. -/
def fnExactCheckAnswerSpec : ChangeSpec := { name := "fnExactCheckAnswer", fn := fun _ => fun
  | [d1, d2, d3] => { results := [.lit (.bool true)], args := [d1, d2, d3] }
  | _ => none }
def fnExactCheckAnswerRow : OpenClaim := { program := "ytgolcojhnklfdaa", sum := "77137338196754cef638c31a374007d9cee2b6aff611e5e1e46fbb40d7a551ab", func := "loop.example/g00036/laws.FnExactCheckAnswer", spec := "fnExactCheckAnswer", unfollowed := true, recurses := true, apart := false }
def FnExactCheckAnswerSaid : Prop := fnExactCheckAnswerRow.holds Try.pinned (OpenSpec.ofChange fnExactCheckAnswerSpec)

/-- ITS FALSE NEIGHBOUR: 'it returns false'. Refute it at one input. -/
def fnExactCheckAnswerWrong : ChangeSpec := { name := "fnExactCheckAnswer", fn := fun _ => fun
  | [d1, d2, d3] => { results := [.lit (.bool false)], args := [d1, d2, d3] }
  | _ => none }
def FnExactCheckAnswerWrongFalsely : Prop := fnExactCheckAnswerRow.holds Try.pinned (OpenSpec.ofChange fnExactCheckAnswerWrong)

/-- 'laws.FnExactPassFaults': WHATEVER THE INPUT: true; the input reads as it did. -/
def fnExactPassFaultsSpec : ChangeSpec := { name := "fnExactPassFaults", fn := fun _ => fun
  | [d1, d2, d3, d4] => { results := [.lit (.bool true)], args := [d1, d2, d3, d4] }
  | _ => none }
def fnExactPassFaultsRow : OpenClaim := { program := "ytgolcojhnklfdaa", sum := "77137338196754cef638c31a374007d9cee2b6aff611e5e1e46fbb40d7a551ab", func := "loop.example/g00036/laws.FnExactPassFaults", spec := "fnExactPassFaults", inPlace := ["internal/bytealg.IndexByteString", "internal/bytealg.IndexString"], unfollowed := true, recurses := true, named := ["internal/bytealg.MaxLen"], apart := false }
def FnExactPassFaultsSaid : Prop := fnExactPassFaultsRow.holds Try.pinned (OpenSpec.ofChange fnExactPassFaultsSpec)

/-- ITS FALSE NEIGHBOUR: 'it returns false'. Refute it at one input. -/
def fnExactPassFaultsWrong : ChangeSpec := { name := "fnExactPassFaults", fn := fun _ => fun
  | [d1, d2, d3, d4] => { results := [.lit (.bool false)], args := [d1, d2, d3, d4] }
  | _ => none }
def FnExactPassFaultsWrongFalsely : Prop := fnExactPassFaultsRow.holds Try.pinned (OpenSpec.ofChange fnExactPassFaultsWrong)

/-- 'laws.FnThrottled': WHATEVER THE INPUT: true; the input reads as it did. -/
def fnThrottledSpec : ChangeSpec := { name := "fnThrottled", fn := fun _ => fun
  | [d] => { results := [.lit (.bool true)], args := [d] }
  | _ => none }
def fnThrottledRow : OpenClaim := { program := "ytgolcojhnklfdaa", sum := "77137338196754cef638c31a374007d9cee2b6aff611e5e1e46fbb40d7a551ab", func := "loop.example/g00036/laws.FnThrottled", spec := "fnThrottled", apart := false }
def FnThrottledSaid : Prop := fnThrottledRow.holds Try.pinned (OpenSpec.ofChange fnThrottledSpec)

/-- ITS FALSE NEIGHBOUR: 'it returns false'. Refute it at one input. -/
def fnThrottledWrong : ChangeSpec := { name := "fnThrottled", fn := fun _ => fun
  | [d] => { results := [.lit (.bool false)], args := [d] }
  | _ => none }
def FnThrottledWrongFalsely : Prop := fnThrottledRow.holds Try.pinned (OpenSpec.ofChange fnThrottledWrong)

/-- 'laws.FnChallenged': WHATEVER THE INPUT: true; the input reads as it did. -/
def fnChallengedSpec : ChangeSpec := { name := "fnChallenged", fn := fun _ => fun
  | [d] => { results := [.lit (.bool true)], args := [d] }
  | _ => none }
def fnChallengedRow : OpenClaim := { program := "ytgolcojhnklfdaa", sum := "77137338196754cef638c31a374007d9cee2b6aff611e5e1e46fbb40d7a551ab", func := "loop.example/g00036/laws.FnChallenged", spec := "fnChallenged", unfollowed := true, recurses := true, apart := false }
def FnChallengedSaid : Prop := fnChallengedRow.holds Try.pinned (OpenSpec.ofChange fnChallengedSpec)

/-- ITS FALSE NEIGHBOUR: 'it returns false'. Refute it at one input. -/
def fnChallengedWrong : ChangeSpec := { name := "fnChallenged", fn := fun _ => fun
  | [d] => { results := [.lit (.bool false)], args := [d] }
  | _ => none }
def FnChallengedWrongFalsely : Prop := fnChallengedRow.holds Try.pinned (OpenSpec.ofChange fnChallengedWrong)

/-- 'laws.FnPasswords': WHATEVER THE INPUT: true; the input reads as it did. -/
def fnPasswordsSpec : ChangeSpec := { name := "fnPasswords", fn := fun _ => fun
  | [d] => { results := [.lit (.bool true)], args := [d] }
  | _ => none }
def fnPasswordsRow : OpenClaim := { program := "ytgolcojhnklfdaa", sum := "77137338196754cef638c31a374007d9cee2b6aff611e5e1e46fbb40d7a551ab", func := "loop.example/g00036/laws.FnPasswords", spec := "fnPasswords", inPlace := ["internal/bytealg.IndexByteString", "internal/bytealg.IndexString"], unfollowed := true, recurses := true, named := ["internal/bytealg.MaxLen"], apart := false }
def FnPasswordsSaid : Prop := fnPasswordsRow.holds Try.pinned (OpenSpec.ofChange fnPasswordsSpec)

/-- ITS FALSE NEIGHBOUR: 'it returns false'. Refute it at one input. -/
def fnPasswordsWrong : ChangeSpec := { name := "fnPasswords", fn := fun _ => fun
  | [d] => { results := [.lit (.bool false)], args := [d] }
  | _ => none }
def FnPasswordsWrongFalsely : Prop := fnPasswordsRow.holds Try.pinned (OpenSpec.ofChange fnPasswordsWrong)

/-- 'laws.FnExactMakeCap': WHATEVER THE INPUT: true; the input reads as it did. -/
def fnExactMakeCapSpec : ChangeSpec := { name := "fnExactMakeCap", fn := fun _ => fun
  | [d1, d2] => { results := [.lit (.bool true)], args := [d1, d2] }
  | _ => none }
def fnExactMakeCapRow : OpenClaim := { program := "ytgolcojhnklfdaa", sum := "77137338196754cef638c31a374007d9cee2b6aff611e5e1e46fbb40d7a551ab", func := "loop.example/g00036/laws.FnExactMakeCap", spec := "fnExactMakeCap", unfollowed := true, recurses := true, apart := false }
def FnExactMakeCapSaid : Prop := fnExactMakeCapRow.holds Try.pinned (OpenSpec.ofChange fnExactMakeCapSpec)

/-- ITS FALSE NEIGHBOUR: 'it returns false'. Refute it at one input. -/
def fnExactMakeCapWrong : ChangeSpec := { name := "fnExactMakeCap", fn := fun _ => fun
  | [d1, d2] => { results := [.lit (.bool false)], args := [d1, d2] }
  | _ => none }
def FnExactMakeCapWrongFalsely : Prop := fnExactMakeCapRow.holds Try.pinned (OpenSpec.ofChange fnExactMakeCapWrong)

/- THE SECOND FORM. 'bulk': how many values and letters a reading holds, each counted each time it is reached (what is shared counts as often as it is met; a slice's spare places count too). A statement '..UptoSaid' is the law's where the arguments, and the package variables that the reading takes, are together of bulk at most 1048576: NARROWER than '..Said'. Prove '..Said' where nothing that the law and all that it calls make is longer than what came in: it says more and counts as full. Else prove '..UptoSaid'. A law counts once. -/
mutual
def uptoBulk {H : Type} : DataW H → Nat
  | .lit (.string bytes) => bytes.length + 1
  | .lit _ => 1
  | .nil => 1
  | .ptr d => uptoBulk d + 1
  | .slice elems spare => uptoBulkAll elems + uptoBulkAll spare + 1
  | .agg parts => uptoBulkAll parts + 1
  | .iface _ d => uptoBulk d + 1
  | .map entries => uptoBulkEntries entries + 1
  | .held _ => 1
def uptoBulkAll {H : Type} : List (DataW H) → Nat
  | [] => 0
  | d :: r => uptoBulk d + uptoBulkAll r
def uptoBulkEntries {H : Type} : List (Lit × DataW H) → Nat
  | [] => 0
  | x :: r => uptoBulkEntry x + uptoBulkEntries r
def uptoBulkEntry {H : Type} : Lit × DataW H → Nat
  | (.string bytes, d) => bytes.length + uptoBulk d + 1
  | (_, d) => uptoBulk d + 1
 end
def uptoSmall : (H : Type) → List (DataW H) → Bool := fun _ ds => decide (uptoBulkAll ds ≤ 1048576)
def OpenSpec.upto (s : _root_.Go.ChangeSpec) : _root_.Go.OpenSpec := { _root_.Go.OpenSpec.ofChange s with cond := some uptoSmall }

/-- 'laws.FnExactChallengeOf', WHERE WHAT IT READS IS OF BULK AT MOST 1048576: true; the input reads as it did. -/
def fnExactChallengeOfUptoRow : OpenClaim := { program := "ytgolcojhnklfdaa", sum := "77137338196754cef638c31a374007d9cee2b6aff611e5e1e46fbb40d7a551ab", func := "loop.example/g00036/laws.FnExactChallengeOf", spec := "fnExactChallengeOf", inPlace := ["internal/abi.NoEscape"], unfollowed := true, recurses := true, apart := false, narrowed := true }
def FnExactChallengeOfUptoSaid : Prop := fnExactChallengeOfUptoRow.holds Try.pinned (OpenSpec.upto fnExactChallengeOfSpec)

/-- 'laws.FnExactCheckAnswer', WHERE WHAT IT READS IS OF BULK AT MOST 1048576: true; the input reads as it did. -/
def fnExactCheckAnswerUptoRow : OpenClaim := { program := "ytgolcojhnklfdaa", sum := "77137338196754cef638c31a374007d9cee2b6aff611e5e1e46fbb40d7a551ab", func := "loop.example/g00036/laws.FnExactCheckAnswer", spec := "fnExactCheckAnswer", unfollowed := true, recurses := true, apart := false, narrowed := true }
def FnExactCheckAnswerUptoSaid : Prop := fnExactCheckAnswerUptoRow.holds Try.pinned (OpenSpec.upto fnExactCheckAnswerSpec)

/-- 'laws.FnExactPassFaults', WHERE WHAT IT READS IS OF BULK AT MOST 1048576: true; the input reads as it did. -/
def fnExactPassFaultsUptoRow : OpenClaim := { program := "ytgolcojhnklfdaa", sum := "77137338196754cef638c31a374007d9cee2b6aff611e5e1e46fbb40d7a551ab", func := "loop.example/g00036/laws.FnExactPassFaults", spec := "fnExactPassFaults", inPlace := ["internal/bytealg.IndexByteString", "internal/bytealg.IndexString"], unfollowed := true, recurses := true, named := ["internal/bytealg.MaxLen"], apart := false, narrowed := true }
def FnExactPassFaultsUptoSaid : Prop := fnExactPassFaultsUptoRow.holds Try.pinned (OpenSpec.upto fnExactPassFaultsSpec)

/-- 'laws.FnThrottled', WHERE WHAT IT READS IS OF BULK AT MOST 1048576: true; the input reads as it did. -/
def fnThrottledUptoRow : OpenClaim := { program := "ytgolcojhnklfdaa", sum := "77137338196754cef638c31a374007d9cee2b6aff611e5e1e46fbb40d7a551ab", func := "loop.example/g00036/laws.FnThrottled", spec := "fnThrottled", apart := false, narrowed := true }
def FnThrottledUptoSaid : Prop := fnThrottledUptoRow.holds Try.pinned (OpenSpec.upto fnThrottledSpec)

/-- 'laws.FnChallenged', WHERE WHAT IT READS IS OF BULK AT MOST 1048576: true; the input reads as it did. -/
def fnChallengedUptoRow : OpenClaim := { program := "ytgolcojhnklfdaa", sum := "77137338196754cef638c31a374007d9cee2b6aff611e5e1e46fbb40d7a551ab", func := "loop.example/g00036/laws.FnChallenged", spec := "fnChallenged", unfollowed := true, recurses := true, apart := false, narrowed := true }
def FnChallengedUptoSaid : Prop := fnChallengedUptoRow.holds Try.pinned (OpenSpec.upto fnChallengedSpec)

/-- 'laws.FnPasswords', WHERE WHAT IT READS IS OF BULK AT MOST 1048576: true; the input reads as it did. -/
def fnPasswordsUptoRow : OpenClaim := { program := "ytgolcojhnklfdaa", sum := "77137338196754cef638c31a374007d9cee2b6aff611e5e1e46fbb40d7a551ab", func := "loop.example/g00036/laws.FnPasswords", spec := "fnPasswords", inPlace := ["internal/bytealg.IndexByteString", "internal/bytealg.IndexString"], unfollowed := true, recurses := true, named := ["internal/bytealg.MaxLen"], apart := false, narrowed := true }
def FnPasswordsUptoSaid : Prop := fnPasswordsUptoRow.holds Try.pinned (OpenSpec.upto fnPasswordsSpec)

/-- 'laws.FnExactMakeCap', WHERE WHAT IT READS IS OF BULK AT MOST 1048576: true; the input reads as it did. -/
def fnExactMakeCapUptoRow : OpenClaim := { program := "ytgolcojhnklfdaa", sum := "77137338196754cef638c31a374007d9cee2b6aff611e5e1e46fbb40d7a551ab", func := "loop.example/g00036/laws.FnExactMakeCap", spec := "fnExactMakeCap", unfollowed := true, recurses := true, apart := false, narrowed := true }
def FnExactMakeCapUptoSaid : Prop := fnExactMakeCapUptoRow.holds Try.pinned (OpenSpec.upto fnExactMakeCapSpec)

end Rows
end Go.Proofs.Ytgolcojhnklfdaa
