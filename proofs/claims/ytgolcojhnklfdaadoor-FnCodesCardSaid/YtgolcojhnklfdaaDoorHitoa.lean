/- strconv.Itoa by the library's contract, in a world that holds the table of powers of ten. -/
import Derived.Test.YtgolcojhnklfdaaDoorPr0x
import Derived.Shelf.Strconv.Itoa3
import Derived.Lib.AppendIntMem
namespace Go.Proofs.YtgolcojhnklfdaaDoor.Pr
open Go.RowKit Go.Shelf Go.Proofs.YtgolcojhnklfdaaDoorW.PrintWords Go.Proofs.YtgolcojhnklfdaaDoorW.PrintLast Go.Proofs.YtgolcojhnklfdaaDoorW.PrintMore
set_option linter.unusedVariables false
set_option maxRecDepth 100000
def itoaF (x : Nat) : Nat := if x = 171 then 23 else if x = 243 then 38 else if x = 246 then 52 else if x = 283 then 59 else if x = 284 then 60 else if x = 285 then 61 else if x = 286 then 62 else if x = 129 then 66 else if x = 317 then 65 else if x = 318 then 67 else if x = 319 then 68 else if x = 320 then 69 else if x = 337 then 70 else if x = 338 then 71 else x
def itoaT (x : Nat) : Nat := if x = 3 then 3 else if x = 9 then 9 else if x = 2 then 2 else if x = 4 then 4 else if x = 171 then 67 else if x = 0 then 0 else if x = 53 then 44 else if x = 37 then 24 else if x = 5 then 5 else if x = 173 then 70 else if x = 212 then 76 else if x = 51 then 77 else if x = 20 then 20 else if x = 213 then 78 else if x = 46 then 42 else if x = 232 then 81 else if x = 233 then 82 else x
def itoaG (x : Nat) : Nat := if x = 17 then 0 else if x = 18 then 1 else if x = 19 then 2 else x
def itoaRen : Ren := ⟨itoaF, itoaT, itoaG⟩
theorem itoaLays : LaysM.n171 Tryd.prog itoaRen where
  mixed := by kernel_rfl
  f129 := Tryd.func66.trans (congrArg some (by kernel_rfl))
  f171 := Tryd.func23.trans (congrArg some (by kernel_rfl))
  f243 := Tryd.func38.trans (congrArg some (by kernel_rfl))
  f246 := Tryd.func52.trans (congrArg some (by kernel_rfl))
  f283 := Tryd.func59.trans (congrArg some (by kernel_rfl))
  f284 := Tryd.func60.trans (congrArg some (by kernel_rfl))
  f285 := Tryd.func61.trans (congrArg some (by kernel_rfl))
  f286 := Tryd.func62.trans (congrArg some (by kernel_rfl))
  f317 := Tryd.func65.trans (congrArg some (by kernel_rfl))
  f318 := Tryd.func67.trans (congrArg some (by kernel_rfl))
  f319 := Tryd.func68.trans (congrArg some (by kernel_rfl))
  f320 := Tryd.func69.trans (congrArg some (by kernel_rfl))
  f337 := Tryd.func70.trans (congrArg some (by kernel_rfl))
  f338 := Tryd.func71.trans (congrArg some (by kernel_rfl))
  t0 := Tryd.underlying0
  a0 := Tryd.isAgg0
  z0 := Tryd.sizeOf0
  v0 := Tryd.zeroValue0
  t2 := Tryd.underlying2
  a2 := Tryd.isAgg2
  z2 := Tryd.sizeOf2
  v2 := Tryd.zeroValue2
  t3 := Tryd.underlying3
  a3 := Tryd.isAgg3
  z3 := Tryd.sizeOf3
  v3 := Tryd.zeroValue3
  t4 := Tryd.underlying4
  a4 := Tryd.isAgg4
  z4 := Tryd.sizeOf4
  v4 := Tryd.zeroValue4
  t5 := Tryd.underlying5
  a5 := Tryd.isAgg5
  z5 := Tryd.sizeOf5
  v5 := Tryd.zeroValue5
  t9 := Tryd.underlying9
  a9 := Tryd.isAgg9
  z9 := Tryd.sizeOf9
  v9 := Tryd.zeroValue9
  t20 := Tryd.underlying20
  a20 := Tryd.isAgg20
  z20 := Tryd.sizeOf20
  v20 := Tryd.zeroValue20
  t37 := Tryd.underlying24
  a37 := Tryd.isAgg24
  z37 := Tryd.sizeOf24
  v37 := Tryd.zeroValue24
  t46 := Tryd.underlying42
  a46 := Tryd.isAgg42
  z46 := Tryd.sizeOf42
  v46 := Tryd.zeroValue42
  t51 := Tryd.underlying77
  a51 := Tryd.isAgg77
  z51 := Tryd.sizeOf77
  v51 := Tryd.zeroValue77
  t53 := Tryd.underlying44
  a53 := Tryd.isAgg44
  z53 := Tryd.sizeOf44
  v53 := Tryd.zeroValue44
  t171 := Tryd.underlying67
  a171 := Tryd.isAgg67
  z171 := Tryd.sizeOf67
  v171 := Tryd.zeroValue67
  t173 := Tryd.underlying70
  a173 := Tryd.isAgg70
  z173 := Tryd.sizeOf70
  v173 := Tryd.zeroValue70
  t212 := Tryd.underlying76
  a212 := Tryd.isAgg76
  z212 := Tryd.sizeOf76
  v212 := Tryd.zeroValue76
  t213 := Tryd.underlying78
  a213 := Tryd.isAgg78
  z213 := Tryd.sizeOf78
  t232 := Tryd.underlying81
  a232 := Tryd.isAgg81
  z232 := Tryd.sizeOf81
  v232 := Tryd.zeroValue81
  t233 := Tryd.underlying82
  a233 := Tryd.isAgg82
  z233 := Tryd.sizeOf82
  v233 := Tryd.zeroValue82
  g17 := by kernel_rfl
  g18 := by kernel_rfl
  g19 := by kernel_rfl
  i0 := by kernel_rfl
  i2 := by kernel_rfl
  i3 := by kernel_rfl
  i4 := by kernel_rfl
  i5 := by kernel_rfl
  i9 := by kernel_rfl
  i20 := by kernel_rfl
  i37 := by kernel_rfl
  i46 := by kernel_rfl
  i51 := by kernel_rfl
  i53 := by kernel_rfl
  i171 := by kernel_rfl
  i173 := by kernel_rfl
  i212 := by kernel_rfl
  i232 := by kernel_rfl
  i233 := by kernel_rfl
  m17 := by kernel_rfl
  m18 := by kernel_rfl
  m19 := by kernel_rfl

/-- The table of powers of ten, as the library's initialiser lays it. -/
def TabW (w : World) : Prop := Lib.TabIs Tryd.prog w "internal/strconv.uint64pow10" .u64 Lib.pow10Tab
theorem tab_named : (Tryd.prog.globalNamed "internal/strconv.uint64pow10").isSome = true := by kernel_rfl
theorem TabW_below {w w' : World} (h : TabW w) (hb : Below w.heap.size w w') : TabW w' := by
  obtain ⟨g, hg⟩ := Option.isSome_iff_exists.1 tab_named
  unfold TabW Lib.TabIs World.var? at h ⊢
  rw [hg] at h ⊢
  simp only [Option.bind_some] at h ⊢
  have hlt : g < w.heap.size := by
    rcases Nat.lt_or_ge g w.heap.size with h' | h'
    · exact h'
    · rw [Array.getElem?_eq_none h'] at h; cases h
  rw [hb.block g hlt]
  exact h
theorem TabW_drewN {w : World} (h : TabW w) (n : Nat) : TabW (w.drewN n) := TabW_below h (pw_below_drewN (Below.refl _ _) _)
theorem TabW_drew {w : World} (h : TabW w) : TabW w.drew := TabW_below h (below_drew (Below.refl _ _))
theorem TabW_alloc {w : World} (h : TabW w) (o : Obj) : TabW (w.alloc o) := TabW_below h (below_alloc (Below.refl _ _) _)
def strconv_Itoa.f (n : Int) : Option ByteArray := if -9223372036854775808 ≤ n ∧ n ≤ 9223372036854775807 then some ⟨(Lib.itoa n).toArray⟩ else none
theorem strconv_Itoa.calls (a0 : Int) (r : ByteArray) (w : World) (htab : TabW w) (h : strconv_Itoa.f a0 = some r) :
    Calls Tryd.prog 23 #[.int .i64 a0] w fun e w' => e = .returned (.string r) ∧ Below w.heap.size w w' := by
  unfold strconv_Itoa.f at h
  by_cases hr : -9223372036854775808 ≤ a0 ∧ a0 ≤ 9223372036854775807
  case neg => rw [if_neg hr] at h; cases h
  rw [if_pos hr] at h
  obtain rfl := Option.some.inj h
  refine (Any.strconv_Itoa itoaLays a0 hr.1 hr.2 w htab).mono ?_
  rintro e w' ⟨rfl, k, os, rfl⟩
  exact ⟨rfl, Lib.below_grow _ w (Nat.le_refl _) k os⟩
end Go.Proofs.YtgolcojhnklfdaaDoor.Pr
