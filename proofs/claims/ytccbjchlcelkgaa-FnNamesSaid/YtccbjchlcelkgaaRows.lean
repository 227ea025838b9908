/-
  No cell of these rows narrows 'for every input' (looked for: loops, veiled, ifaces, maps, wideKeys, modest, calm, conditions, laid).
  DERIVED. THE GIVEN ROWS OF THIS SEAT. 8 by the template 'for every input the law returns true; each argument reads behind the call as it read before'; 0 by the template 'total and deterministic' (their statements: YtccbjchlcelkgaaTotals.lean).
  GIVEN WITH THE SEED: the statements are not yours to turn. If you find one false, say at which input.
  Laid BY PROGRAM, IN A SANDBOX (cutbox-rows.mjs): the forced cells as the released guide's own fill.sh prints them over the translation 5c5f23bf1003a2cc… (all of the seat's roots in one cut). By AI agents, Wed Nov 11 2026. No macro, syntax, notation, axiom, sorry.
-/
import Derived.Test.YtccbjchlcelkgaaChecked
import GoSem.Claim
import GoSem.ClaimJoined
import GoSem.ClaimMapViews
import Derived.JoinedTies
import Derived.KernelRfl
namespace Go.Proofs.Ytccbjchlcelkgaa
/- THE CELL 'sum', in the pinned program and in every row, IS THE sha256 OF THE DUMP (.gsa) THAT YtccbjchlcelkgaaProg.lean LOADS. Nothing in Lean hashes anything: it is a label: what it is worth is what the hold of that sum in a sandbox is worth. -/
noncomputable def Try.pinned : Pinned := { name := "ytccbjchlcelkgaa", sum := "5c5f23bf1003a2ccf18a6fe8263e16b38495d744afcfddc5337ee46f97db9904", checked := Try.checked }
namespace Rows
def none {H : Type} : Left H := { results := [], args := [] }

/-- 'laws.FnLike': WHATEVER THE INPUT: true; the input reads as it did. -/
def fnLikeSpec : ChangeSpec := { name := "fnLike", fn := fun _ => fun
  | [d] => { results := [.lit (.bool true)], args := [d] }
  | _ => none }
def fnLikeRow : OpenClaim := { program := "ytccbjchlcelkgaa", sum := "5c5f23bf1003a2ccf18a6fe8263e16b38495d744afcfddc5337ee46f97db9904", func := "loop.example/g00036/laws.FnLike", spec := "fnLike", apart := false }
def FnLikeSaid : Prop := fnLikeRow.holds Try.pinned (OpenSpec.ofChange fnLikeSpec)

/-- ITS FALSE NEIGHBOUR: 'it returns false'. Refute it at one input. -/
def fnLikeWrong : ChangeSpec := { name := "fnLike", fn := fun _ => fun
  | [d] => { results := [.lit (.bool false)], args := [d] }
  | _ => none }
def FnLikeWrongFalsely : Prop := fnLikeRow.holds Try.pinned (OpenSpec.ofChange fnLikeWrong)

/-- 'laws.FnArmored': WHATEVER THE INPUT: true; the input reads as it did. -/
def fnArmoredSpec : ChangeSpec := { name := "fnArmored", fn := fun _ => fun
  | [d] => { results := [.lit (.bool true)], args := [d] }
  | _ => none }
def fnArmoredRow : OpenClaim := { program := "ytccbjchlcelkgaa", sum := "5c5f23bf1003a2ccf18a6fe8263e16b38495d744afcfddc5337ee46f97db9904", func := "loop.example/g00036/laws.FnArmored", spec := "fnArmored", inPlace := ["internal/abi.NoEscape", "internal/bytealg.IndexByteString"], apart := false }
def FnArmoredSaid : Prop := fnArmoredRow.holds Try.pinned (OpenSpec.ofChange fnArmoredSpec)

/-- ITS FALSE NEIGHBOUR: 'it returns false'. Refute it at one input. -/
def fnArmoredWrong : ChangeSpec := { name := "fnArmored", fn := fun _ => fun
  | [d] => { results := [.lit (.bool false)], args := [d] }
  | _ => none }
def FnArmoredWrongFalsely : Prop := fnArmoredRow.holds Try.pinned (OpenSpec.ofChange fnArmoredWrong)

/-- 'laws.FnBlocks': WHATEVER THE INPUT: true; the input reads as it did. -/
def fnBlocksSpec : ChangeSpec := { name := "fnBlocks", fn := fun _ => fun
  | [d1, d2] => { results := [.lit (.bool true)], args := [d1, d2] }
  | _ => none }
def fnBlocksRow : OpenClaim := { program := "ytccbjchlcelkgaa", sum := "5c5f23bf1003a2ccf18a6fe8263e16b38495d744afcfddc5337ee46f97db9904", func := "loop.example/g00036/laws.FnBlocks", spec := "fnBlocks", apart := false }
def FnBlocksSaid : Prop := fnBlocksRow.holds Try.pinned (OpenSpec.ofChange fnBlocksSpec)

/-- ITS FALSE NEIGHBOUR: 'it returns false'. Refute it at one input. -/
def fnBlocksWrong : ChangeSpec := { name := "fnBlocks", fn := fun _ => fun
  | [d1, d2] => { results := [.lit (.bool false)], args := [d1, d2] }
  | _ => none }
def FnBlocksWrongFalsely : Prop := fnBlocksRow.holds Try.pinned (OpenSpec.ofChange fnBlocksWrong)

/-- 'laws.FnSigned': WHATEVER THE INPUT: true; the input reads as it did. -/
def fnSignedSpec : ChangeSpec := { name := "fnSigned", fn := fun _ => fun
  | [d] => { results := [.lit (.bool true)], args := [d] }
  | _ => none }
def fnSignedRow : OpenClaim := { program := "ytccbjchlcelkgaa", sum := "5c5f23bf1003a2ccf18a6fe8263e16b38495d744afcfddc5337ee46f97db9904", func := "loop.example/g00036/laws.FnSigned", spec := "fnSigned", unfollowed := true, recurses := true, apart := false }
def FnSignedSaid : Prop := fnSignedRow.holds Try.pinned (OpenSpec.ofChange fnSignedSpec)

/-- ITS FALSE NEIGHBOUR: 'it returns false'. Refute it at one input. -/
def fnSignedWrong : ChangeSpec := { name := "fnSigned", fn := fun _ => fun
  | [d] => { results := [.lit (.bool false)], args := [d] }
  | _ => none }
def FnSignedWrongFalsely : Prop := fnSignedRow.holds Try.pinned (OpenSpec.ofChange fnSignedWrong)

/-- 'laws.FnShared': WHATEVER THE INPUT: true; the input reads as it did. -/
def fnSharedSpec : ChangeSpec := { name := "fnShared", fn := fun _ => fun
  | [d1, d2] => { results := [.lit (.bool true)], args := [d1, d2] }
  | _ => none }
def fnSharedRow : OpenClaim := { program := "ytccbjchlcelkgaa", sum := "5c5f23bf1003a2ccf18a6fe8263e16b38495d744afcfddc5337ee46f97db9904", func := "loop.example/g00036/laws.FnShared", spec := "fnShared", unfollowed := true, recurses := true, apart := false }
def FnSharedSaid : Prop := fnSharedRow.holds Try.pinned (OpenSpec.ofChange fnSharedSpec)

/-- ITS FALSE NEIGHBOUR: 'it returns false'. Refute it at one input. -/
def fnSharedWrong : ChangeSpec := { name := "fnShared", fn := fun _ => fun
  | [d1, d2] => { results := [.lit (.bool false)], args := [d1, d2] }
  | _ => none }
def FnSharedWrongFalsely : Prop := fnSharedRow.holds Try.pinned (OpenSpec.ofChange fnSharedWrong)

/-- 'laws.FnSets': WHATEVER THE INPUT: true; the input reads as it did. -/
def fnSetsSpec : ChangeSpec := { name := "fnSets", fn := fun _ => fun
  | [d] => { results := [.lit (.bool true)], args := [d] }
  | _ => none }
def fnSetsRow : OpenClaim := { program := "ytccbjchlcelkgaa", sum := "5c5f23bf1003a2ccf18a6fe8263e16b38495d744afcfddc5337ee46f97db9904", func := "loop.example/g00036/laws.FnSets", spec := "fnSets", unfollowed := true, recurses := true, apart := false }
def FnSetsSaid : Prop := fnSetsRow.holds Try.pinned (OpenSpec.ofChange fnSetsSpec)

/-- ITS FALSE NEIGHBOUR: 'it returns false'. Refute it at one input. -/
def fnSetsWrong : ChangeSpec := { name := "fnSets", fn := fun _ => fun
  | [d] => { results := [.lit (.bool false)], args := [d] }
  | _ => none }
def FnSetsWrongFalsely : Prop := fnSetsRow.holds Try.pinned (OpenSpec.ofChange fnSetsWrong)

/-- 'laws.FnNames': WHATEVER THE INPUT: true; the input reads as it did. -/
def fnNamesSpec : ChangeSpec := { name := "fnNames", fn := fun _ => fun
  | [d] => { results := [.lit (.bool true)], args := [d] }
  | _ => none }
def fnNamesRow : OpenClaim := { program := "ytccbjchlcelkgaa", sum := "5c5f23bf1003a2ccf18a6fe8263e16b38495d744afcfddc5337ee46f97db9904", func := "loop.example/g00036/laws.FnNames", spec := "fnNames", inPlace := ["internal/bytealg.IndexByteString", "internal/abi.NoEscape", "internal/bytealg.MakeNoZero", "internal/bytealg.IndexString"], unfollowed := true, recurses := true, named := ["internal/bytealg.MaxLen"], apart := false }
def FnNamesSaid : Prop := fnNamesRow.holds Try.pinned (OpenSpec.ofChange fnNamesSpec)

/-- ITS FALSE NEIGHBOUR: 'it returns false'. Refute it at one input. -/
def fnNamesWrong : ChangeSpec := { name := "fnNames", fn := fun _ => fun
  | [d] => { results := [.lit (.bool false)], args := [d] }
  | _ => none }
def FnNamesWrongFalsely : Prop := fnNamesRow.holds Try.pinned (OpenSpec.ofChange fnNamesWrong)

/-- 'laws.FnCaveats': WHATEVER THE INPUT: true; the input reads as it did. -/
def fnCaveatsSpec : ChangeSpec := { name := "fnCaveats", fn := fun _ => fun
  | [d] => { results := [.lit (.bool true)], args := [d] }
  | _ => none }
def fnCaveatsRow : OpenClaim := { program := "ytccbjchlcelkgaa", sum := "5c5f23bf1003a2ccf18a6fe8263e16b38495d744afcfddc5337ee46f97db9904", func := "loop.example/g00036/laws.FnCaveats", spec := "fnCaveats", unfollowed := true, recurses := true, apart := false }
def FnCaveatsSaid : Prop := fnCaveatsRow.holds Try.pinned (OpenSpec.ofChange fnCaveatsSpec)

/-- ITS FALSE NEIGHBOUR: 'it returns false'. Refute it at one input. -/
def fnCaveatsWrong : ChangeSpec := { name := "fnCaveats", fn := fun _ => fun
  | [d] => { results := [.lit (.bool false)], args := [d] }
  | _ => none }
def FnCaveatsWrongFalsely : Prop := fnCaveatsRow.holds Try.pinned (OpenSpec.ofChange fnCaveatsWrong)

/- THE SECOND FORM. 'bulk': how many values and letters a reading holds, each counted each time it is reached (what is shared counts as often as it is met; a slice's spare places count too). A statement '..UptoSaid' is the law's where the arguments, and the package variables that the reading takes, are together of bulk at most 1048576: NARROWER than '..Said'. Prove '..Said' where nothing that the law and all that it calls make is longer than what came in: it says more and counts as full. Else prove '..UptoSaid'. A law counts once. -/
mutual
def uptoBulk {H : Type} : DataW H → Nat
  | .lit (.string bytes) => bytes.length + 1
  | .lit _ => 1
  | .nil => 1
  | .ptr d => uptoBulk d + 1
  | .slice elems spare => uptoBulkAll elems + uptoBulkAll spare + 1
  | .agg parts => uptoBulkAll parts + 1
  | .iface _ d => uptoBulk d + 1
  | .map entries => uptoBulkEntries entries + 1
  | .held _ => 1
def uptoBulkAll {H : Type} : List (DataW H) → Nat
  | [] => 0
  | d :: r => uptoBulk d + uptoBulkAll r
def uptoBulkEntries {H : Type} : List (Lit × DataW H) → Nat
  | [] => 0
  | x :: r => uptoBulkEntry x + uptoBulkEntries r
def uptoBulkEntry {H : Type} : Lit × DataW H → Nat
  | (.string bytes, d) => bytes.length + uptoBulk d + 1
  | (_, d) => uptoBulk d + 1
 end
def uptoSmall : (H : Type) → List (DataW H) → Bool := fun _ ds => decide (uptoBulkAll ds ≤ 1048576)
def OpenSpec.upto (s : _root_.Go.ChangeSpec) : _root_.Go.OpenSpec := { _root_.Go.OpenSpec.ofChange s with cond := some uptoSmall }

/-- 'laws.FnLike', WHERE WHAT IT READS IS OF BULK AT MOST 1048576: true; the input reads as it did. -/
def fnLikeUptoRow : OpenClaim := { program := "ytccbjchlcelkgaa", sum := "5c5f23bf1003a2ccf18a6fe8263e16b38495d744afcfddc5337ee46f97db9904", func := "loop.example/g00036/laws.FnLike", spec := "fnLike", apart := false, narrowed := true }
def FnLikeUptoSaid : Prop := fnLikeUptoRow.holds Try.pinned (OpenSpec.upto fnLikeSpec)

/-- 'laws.FnArmored', WHERE WHAT IT READS IS OF BULK AT MOST 1048576: true; the input reads as it did. -/
def fnArmoredUptoRow : OpenClaim := { program := "ytccbjchlcelkgaa", sum := "5c5f23bf1003a2ccf18a6fe8263e16b38495d744afcfddc5337ee46f97db9904", func := "loop.example/g00036/laws.FnArmored", spec := "fnArmored", inPlace := ["internal/abi.NoEscape", "internal/bytealg.IndexByteString"], apart := false, narrowed := true }
def FnArmoredUptoSaid : Prop := fnArmoredUptoRow.holds Try.pinned (OpenSpec.upto fnArmoredSpec)

/-- 'laws.FnBlocks', WHERE WHAT IT READS IS OF BULK AT MOST 1048576: true; the input reads as it did. -/
def fnBlocksUptoRow : OpenClaim := { program := "ytccbjchlcelkgaa", sum := "5c5f23bf1003a2ccf18a6fe8263e16b38495d744afcfddc5337ee46f97db9904", func := "loop.example/g00036/laws.FnBlocks", spec := "fnBlocks", apart := false, narrowed := true }
def FnBlocksUptoSaid : Prop := fnBlocksUptoRow.holds Try.pinned (OpenSpec.upto fnBlocksSpec)

/-- 'laws.FnSigned', WHERE WHAT IT READS IS OF BULK AT MOST 1048576: true; the input reads as it did. -/
def fnSignedUptoRow : OpenClaim := { program := "ytccbjchlcelkgaa", sum := "5c5f23bf1003a2ccf18a6fe8263e16b38495d744afcfddc5337ee46f97db9904", func := "loop.example/g00036/laws.FnSigned", spec := "fnSigned", unfollowed := true, recurses := true, apart := false, narrowed := true }
def FnSignedUptoSaid : Prop := fnSignedUptoRow.holds Try.pinned (OpenSpec.upto fnSignedSpec)

/-- 'laws.FnShared', WHERE WHAT IT READS IS OF BULK AT MOST 1048576: true; the input reads as it did. -/
def fnSharedUptoRow : OpenClaim := { program := "ytccbjchlcelkgaa", sum := "5c5f23bf1003a2ccf18a6fe8263e16b38495d744afcfddc5337ee46f97db9904", func := "loop.example/g00036/laws.FnShared", spec := "fnShared", unfollowed := true, recurses := true, apart := false, narrowed := true }
def FnSharedUptoSaid : Prop := fnSharedUptoRow.holds Try.pinned (OpenSpec.upto fnSharedSpec)

/-- 'laws.FnSets', WHERE WHAT IT READS IS OF BULK AT MOST 1048576: true; the input reads as it did. -/
def fnSetsUptoRow : OpenClaim := { program := "ytccbjchlcelkgaa", sum := "5c5f23bf1003a2ccf18a6fe8263e16b38495d744afcfddc5337ee46f97db9904", func := "loop.example/g00036/laws.FnSets", spec := "fnSets", unfollowed := true, recurses := true, apart := false, narrowed := true }
def FnSetsUptoSaid : Prop := fnSetsUptoRow.holds Try.pinned (OpenSpec.upto fnSetsSpec)

/-- 'laws.FnNames', WHERE WHAT IT READS IS OF BULK AT MOST 1048576: true; the input reads as it did. -/
def fnNamesUptoRow : OpenClaim := { program := "ytccbjchlcelkgaa", sum := "5c5f23bf1003a2ccf18a6fe8263e16b38495d744afcfddc5337ee46f97db9904", func := "loop.example/g00036/laws.FnNames", spec := "fnNames", inPlace := ["internal/bytealg.IndexByteString", "internal/abi.NoEscape", "internal/bytealg.MakeNoZero", "internal/bytealg.IndexString"], unfollowed := true, recurses := true, named := ["internal/bytealg.MaxLen"], apart := false, narrowed := true }
def FnNamesUptoSaid : Prop := fnNamesUptoRow.holds Try.pinned (OpenSpec.upto fnNamesSpec)

/-- 'laws.FnCaveats', WHERE WHAT IT READS IS OF BULK AT MOST 1048576: true; the input reads as it did. -/
def fnCaveatsUptoRow : OpenClaim := { program := "ytccbjchlcelkgaa", sum := "5c5f23bf1003a2ccf18a6fe8263e16b38495d744afcfddc5337ee46f97db9904", func := "loop.example/g00036/laws.FnCaveats", spec := "fnCaveats", unfollowed := true, recurses := true, apart := false, narrowed := true }
def FnCaveatsUptoSaid : Prop := fnCaveatsUptoRow.holds Try.pinned (OpenSpec.upto fnCaveatsSpec)

end Rows
end Go.Proofs.Ytccbjchlcelkgaa
