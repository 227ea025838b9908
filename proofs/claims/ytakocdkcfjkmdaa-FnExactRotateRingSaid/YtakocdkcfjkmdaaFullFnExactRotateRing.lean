/- The law FnExactRotateRing: whatever the input, the call returns true and the arguments read as before. No conditions. -/
import Derived.Test.YtakocdkcfjkmdaaFullFnExactRotateRingD
import Derived.Test.YtakocdkcfjkmdaaRows
import Derived.WalkKit
import Derived.ProofKit
import Derived.OpenShut
import Derived.ShutString
import Derived.ChangeOld
import Derived.Below
namespace Go.Proofs.Ytakocdkcfjkmdaa.Pr
open Go.RowKit Go.Proofs.Ytakocdkcfjkmdaa.Read Go.Proofs.YtakocdkcfjkmdaaW.PrintWords
set_option linter.unusedVariables false
def toK (e : S50) : S53 := ⟨e.f0,e.f1,e.f2,e.f3⟩
theorem rdKL_nat {l : List S50} {i : Nat} (h : i < l.length) : kv l (i : Int) = l[i] := by simp [kv,List.getD_eq_getElem?_getD,List.getElem?_eq_getElem h]
theorem rdKI_nat {l : List S53} {i : Nat} (h : i < l.length) : kw l (i : Int) = l[i] := by simp [kw,List.getD_eq_getElem?_getD,List.getElem?_eq_getElem h]
theorem szKey_eq (a : ByteArray) (p f u left : Int) (ha : okS a) (h0 : 0 ≤ left) (h1 : left ≤ 1048576) : ∃ r : Int,xq.f a p f u left = some r ∧ r ≤ 1048576 ∧ (¬ r < 0 → a.size ≤ 1048576) := by
 unfold okS at ha
 unfold xq.f
 rw [w64 (by omega) (by omega)]
 by_cases h : left - (a.size : Int) < 0
 ·exact ⟨_,if_pos h,by omega,fun h2 => by omega⟩
 ·exact ⟨_,if_neg h,by omega,fun h2 => by omega⟩
theorem szKeyS_ev (l : List S50) (hok : ∀ e ∈ l,okS e.f0) (hmax : l.length ≤ 9223372036854775807) (left : Int) (h0 : 0 ≤ left) (h1 : left ≤ 1048576) : ∃ r : Int,Ev (fun k => xz.f k l left) r ∧ r ≤ 1048576 ∧ (¬ r < 0 → l.length ≤ 1048576 ∧ ∀ e ∈ l,e.f0.size ≤ 1048576) :=
 rows_szf l (fun e => okS e.f0) (fun e => e.f0.size ≤ 1048576) (fun k x => xz.f k l x) (fun k x i => xz.l0 k l x i) (fun _ e x => xq.f e.f0 e.f1 e.f2 e.f3 x) left h0 h1 hmax (fun _ => rfl)
  (fun k x => by simp only [xz.l0,if_neg (Int.lt_irrefl _)])
  (fun hl k i h x => by simp only [xz.l0,if_pos (show (i : Int) < (l.length : Int) by omega),if_pos (Int.natCast_nonneg i),rdKL_nat h,wrap_succ h (by omega)])
  hok (fun e he x hx0 hx1 => by obtain ⟨r,e1,e2,e3⟩ := szKey_eq e.f0 e.f1 e.f2 e.f3 x he hx0 hx1;exact ⟨r,⟨0,fun _ _ => e1⟩,e2,e3⟩)
theorem toKeyS_ev (l : List S50) (hlen : l.length ≤ 1048576) : Ev (fun k => xk.f k l) (l.map toK) := by
 simp only [xk.f,if_pos (Int.natCast_nonneg l.length),Int.toNat_natCast,if_pos (show l.length ≤ 7036874417766 by omega)]
 have := rows_to l z53 (fun k x i => xk.l0 k l x i) (fun _ e => xj.f e.f0 e.f1 e.f2 e.f3) (fun t => (⟨t.1,t.2.1,t.2.2.1,t.2.2.2⟩ : S53)) toK hlen
  (fun k x => by simp only [xk.l0,if_neg (Int.lt_irrefl _)])
  (fun k i h x hx => by simp only [xk.l0,if_pos (show (i : Int) < (l.length : Int) by omega),if_pos (Int.natCast_nonneg i),rdKL_nat h,wrap_succ h (by omega),if_pos (show (i : Int) < (x.length : Int) by omega),Int.toNat_natCast])
  (fun e _ => ⟨_,⟨0,fun _ _ => rfl⟩,rfl⟩) l.length 0 (by omega)
 rw [List.take_zero,List.map_nil,List.nil_append] at this
 exact this
theorem eqKey_refl (a : ByteArray) (p f u : Int) : wj.f a p f u a p f u = some true := by unfold wj.f;simp only [if_true]
theorem eqKeyS_refl (l : List S53) (hlen : l.length ≤ 1048576) : Ev (fun k => wk.f k l l) true := by
 simp only [wk.f,if_true]
 exact rows_eq l (fun k i => wk.l0 k l l i) (fun _ e => wj.f e.f0 e.f1 e.f2 e.f3 e.f0 e.f1 e.f2 e.f3) hlen
  (fun k => by simp only [wk.l0,if_neg (Int.lt_irrefl _)])
  (fun k i h => by simp only [wk.l0,if_pos (show (i : Int) < (l.length : Int) by omega),if_pos (Int.natCast_nonneg i),rdKI_nat h,wrap_succ h (by omega)])
  (fun e _ => ⟨0,fun _ _ => eqKey_refl _ _ _ _⟩) l.length 0 (by omega)
set_option linter.unusedSimpArgs false
theorem markText_l0 (n : Nat) : ∀ (x : Int) (s : ByteArray),0 ≤ x → x < 10 ^ n → n ≤ 18 → s.size + n ≤ 1000 → ∃ t,Ev (fun k => wx.l0 k x s) t := by
 induction n with
 | zero =>
  intro x s h0 h1 h2 hs
  refine ⟨_,Ev.upK (r := (⟨#[109]⟩ : ByteArray) ++ s) ?_⟩
  simp only [wx.l0,if_neg (show ¬ x > 0 by omega),if_pos (show 1 + s.size ≤ 9223372036854775807 by omega)]
  exact Ev.now _
 | succ n ih =>
  intro x s h0 h1 h2 hs
  by_cases hx : x > 0
  ·have hz : ∀ y : Int,(strOfNums [y]).size = 1 := fun y => rfl
   have hb : (10 : Int) ^ (n + 1) ≤ 10 ^ 18 := by
    have : (10 : Nat) ^ (n + 1) ≤ 10 ^ 18 := Nat.pow_le_pow_right (by decide) h2
    exact_mod_cast this
   have hp : (10 : Int) ^ (n + 1) = 10 ^ n * 10 := Int.pow_succ _ _
   have hd : Int.tdiv x 10 = x / 10 := Int.tdiv_eq_ediv_of_nonneg h0
   have hlt : x / 10 < 10 ^ n := by omega
   by_cases hbig : x ≤ 9223372036854775807
   case neg => omega
   have hw : wrap64 (Int.tdiv x 10) = x / 10 := by rw [hd];exact w64 (by omega) (by omega)
   obtain ⟨t,ht⟩ := ih (x / 10) (strOfNums [(wrap64 (48 + (Int.tmod x 10))) % 256] ++ s) (by omega) hlt (by omega) (by rw [ByteArray.size_append,hz];omega)
   refine ⟨t,Ev.upK ?_⟩
   simp only [wx.l0,if_pos hx,Option.bind_some,hz,if_pos (show 1 + s.size ≤ 9223372036854775807 by omega),hw]
   exact ht
  ·refine ⟨_,Ev.upK (r := (⟨#[109]⟩ : ByteArray) ++ s) ?_⟩
   simp only [wx.l0,if_neg hx,if_pos (show 1 + s.size ≤ 9223372036854775807 by omega)]
   exact Ev.now _
theorem markText_ex (x : Int) : ∃ t,x < 1000000000000000000 → Ev (fun k => wx.f k x) t := by
 by_cases h : x ≤ 0
 ·refine ⟨⟨#[109,48]⟩,fun _ => ?_⟩
  simp only [wx.f,if_pos h]
  exact Ev.now _
 ·by_cases h1 : x < 1000000000000000000
  ·obtain ⟨t,ht⟩ := markText_l0 18 x (⟨#[]⟩ : ByteArray) (by omega) (by omega) (by omega) (by decide)
   refine ⟨t,fun _ => ?_⟩
   simp only [wx.f,if_neg h]
   exact ht
  ·exact ⟨⟨#[]⟩,fun h2 => absurd h2 h1⟩
noncomputable def mt (x : Int) : ByteArray := Classical.choose (markText_ex x)
theorem mt_ev (x : Int) (h : x < 1000000000000000000) : Ev (fun k => wx.f k x) (mt x) := Classical.choose_spec (markText_ex x) h
noncomputable def markK (i : Nat) : KeyS := ⟨mt (1 + 4 * (i : Int)),2 + 4 * (i : Int),3 + 4 * (i : Int),4 + 4 * (i : Int)⟩
noncomputable def marksK (n : Nat) : List KeyS := (List.range n).map markK
theorem marksK_len (n : Nat) : (marksK n).length = n := by simp [marksK]
theorem marksK_succ (n : Nat) : marksK (n + 1) = marksK n ++ [markK n] := by simp [marksK,List.range_succ]
theorem marksK_at {n i : Nat} (h : i < n) : kw (marksK n) (i : Int) = markK i := by
 rw [rdK_nat (by rw [marksK_len];exact h)]
 simp [marksK]
theorem rd_mid (a b : List KeyS) (x : KeyS) (i : Nat) (h : a.length = i) : kw (a ++ x :: b) (i : Int) = x := by
 subst h
 simp [kw,List.getD_eq_getElem?_getD]
theorem set_mid (a b : List KeyS) (x y : KeyS) (i : Nat) (h : a.length = i) : (a ++ x :: b).set i y = a ++ y :: b := by
 subst h
 simp
theorem markKeys_l0 (l : List KeyS) (hlen : l.length ≤ 1048576) (d : Nat) : ∀ i : Nat,i + d = l.length → Ev (fun k => ww.l0 k (marksK i ++ l.drop i) (1 + 4 * (i : Int)) (i : Int)) (1 + 4 * (l.length : Int),marksK l.length) := by
 induction d with
 | zero =>
  intro i hi
  obtain rfl : i = l.length := by omega
  refine Ev.upK ?_
  rw [List.drop_length,List.append_nil]
  simp only [ww.l0,marksK_len,if_neg (Int.lt_irrefl _)]
  exact Ev.now _
 | succ d ih =>
  intro i hi
  have hlt : i < l.length := by omega
  have hn := ih (i + 1) (by omega)
  rw [marksK_succ,List.append_assoc] at hn
  rw [List.drop_eq_getElem_cons hlt]
  have hz : (marksK i ++ l[i] :: l.drop (i + 1)).length = l.length := by rw [← List.drop_eq_getElem_cons hlt,List.length_append,marksK_len,List.length_drop];omega
  refine Ev.upK ?_
  simp only [ww.l0,hz,if_pos (show (i : Int) < (l.length : Int) by omega)]
  refine Ev.bind (mt_ev _ (by omega)) ?_
  simp only [if_pos (Int.natCast_nonneg i),Int.toNat_natCast,Option.bind_some,set_mid _ _ _ _ i (marksK_len i),rd_mid _ _ _ i (marksK_len i)]
  rw [w64 (n := 1 + 4 * (i : Int) + 1) (by omega) (by omega),w64 (n := 1 + 4 * (i : Int) + 1 + 1) (by omega) (by omega),w64 (n := 1 + 4 * (i : Int) + 1 + 1 + 1) (by omega) (by omega),w64 (n := 1 + 4 * (i : Int) + 1 + 1 + 1 + 1) (by omega) (by omega),w64 (n := (i : Int) + 1) (by omega) (by omega),
   show (1 + 4 * (i : Int) + 1 + 1 + 1 + 1) = 1 + 4 * ((i + 1 : Nat) : Int) by omega,show ((i : Int) + 1) = ((i + 1 : Nat) : Int) by omega,show 1 + 4 * (i : Int) + 1 = 2 + 4 * (i : Int) by omega,show 2 + 4 * (i : Int) + 1 = 3 + 4 * (i : Int) by omega,show 3 + 4 * (i : Int) + 1 = 4 + 4 * (i : Int) by omega]
  exact hn
theorem markKeyS_ev (l : List KeyS) (hlen : l.length ≤ 1048576) : Ev (fun k => ww.f k l 1) (1 + 4 * (l.length : Int),marksK l.length) := by
 have := markKeys_l0 l hlen l.length 0 (by omega)
 simpa [ww.f,marksK] using this
theorem heldKeys_l0 (n : Nat) (hlen : n ≤ 1048576) (d : Nat) : ∀ i : Nat,i + d = n → Ev (fun k => wv.l0 k (marksK n) (1 + 4 * (i : Int)) (i : Int)) (1 + 4 * (n : Int)) := by
 induction d with
 | zero =>
  intro i hi
  obtain rfl : i = n := by omega
  refine Ev.upK ?_
  simp only [wv.l0,marksK_len,if_neg (Int.lt_irrefl _)]
  exact Ev.now _
 | succ d ih =>
  intro i hi
  have hlt : i < n := by omega
  have hn := ih (i + 1) (by omega)
  refine Ev.upK ?_
  simp only [wv.l0,marksK_len,if_pos (show (i : Int) < (n : Int) by omega),if_pos (Int.natCast_nonneg i),marksK_at hlt]
  refine Ev.bind (mt_ev _ (by omega)) ?_
  rw [w64 (n := 1 + 4 * (i : Int) + 1) (by omega) (by omega),w64 (n := 1 + 4 * (i : Int) + 1 + 1) (by omega) (by omega),w64 (n := 1 + 4 * (i : Int) + 1 + 1 + 1) (by omega) (by omega),w64 (n := 1 + 4 * (i : Int) + 1 + 1 + 1 + 1) (by omega) (by omega),w64 (n := (i : Int) + 1) (by omega) (by omega),
   show (1 + 4 * (i : Int) + 1 + 1 + 1 + 1) = 1 + 4 * ((i + 1 : Nat) : Int) by omega,show ((i : Int) + 1) = ((i + 1 : Nat) : Int) by omega]
  have e2 : (markK i).f1 = 1 + 4 * (i : Int) + 1 := by show 2 + 4 * (i : Int) = _;omega
  have e3 : (markK i).f2 = 1 + 4 * (i : Int) + 1 + 1 := by show 3 + 4 * (i : Int) = _;omega
  have e4 : (markK i).f3 = 1 + 4 * (i : Int) + 1 + 1 + 1 := by show 4 + 4 * (i : Int) = _;omega
  simp only [if_pos (show (markK i).f0.toList = (mt (1 + 4 * (i : Int))).toList from rfl),if_pos e2,if_pos e3,if_pos e4]
  exact hn
theorem heldKeyS_ev (n : Nat) (hlen : n ≤ 1048576) : Ev (fun k => wv.f k (marksK n) 1) (1 + 4 * (n : Int)) := by
 have := heldKeys_l0 n hlen n 0 (by omega)
 simpa [wv.f] using this
end Go.Proofs.Ytakocdkcfjkmdaa.Pr
namespace Go.Proofs.Ytakocdkcfjkmdaa.Pure
open Go.RowKit Go.Proofs.Ytakocdkcfjkmdaa.Read Go.Proofs.YtakocdkcfjkmdaaW.PrintWords Go.Proofs.Ytakocdkcfjkmdaa.Pr
set_option linter.unusedVariables false
theorem FnExactRotateRing : wz.Pure := by
 intro l a0 a1 a2 a3 t g hl h0 h1 h2 h3 ht hg
 obtain ⟨r,hr,hrb,hsmall⟩ := szKeyS_ev l (fun e he => (hl.2 e he).1) hl.1 1048576 (by omega) (by omega)
 apply Ev.rounds
 simp only [wz.f]
 refine Ev.bind hr ?_
 by_cases hneg : r < 0
 ·simp only [if_pos hneg];exact Ev.now _
 obtain ⟨hlen,hs⟩ := hsmall hneg
 simp only [if_neg hneg]
 obtain ⟨q,hq,_,hsm⟩ := szKey_eq a0 a1 a2 a3 r h0 (by omega) (by omega)
 simp only [hq,Option.bind_some]
 by_cases hneg2 : q < 0
 ·simp only [if_pos hneg2];exact Ev.now _
 simp only [if_neg hneg2]
 have ha := hsm hneg2
 have hto := toKeyS_ev l hlen
 have hok : okKeys (l.map toK) := fun e he => by
  obtain ⟨x,hx,rfl⟩ := List.mem_map.1 he
  have := hs x hx
  show x.f0.size ≤ _
  omega
 have hl2 : (l.map toK).length ≤ 1048576 := by rw [List.length_map];exact hlen
 have hspec := specRotate_ev (l.map toK) ⟨a0,a1,a2,a3⟩ t g (by omega) (by show a0.size ≤ _;omega) hok
 have himpl := implRotate_ev (l.map toK) ⟨a0,a1,a2,a3⟩ t g (by omega) (by show a0.size ≤ _;omega) hok
 have hR := rotR_len (l.map toK) ⟨a0,a1,a2,a3⟩ t g
 simp only at hspec himpl
 generalize rotR (l.map toK) ⟨a0,a1,a2,a3⟩ t g = R at hspec himpl hR
 have heq := eqKeyS_refl R (by omega)
 have hmark := markKeyS_ev R (by omega)
 have hheld := heldKeyS_ev R.length (by omega)
 refine Ev.bind hto ?_
 simp only [xj.f,Option.bind_some]
 refine Ev.bind hspec ?_
 refine Ev.bind hto ?_
 refine Ev.bind himpl ?_
 refine Ev.bind heq ?_
 simp only [if_true]
 refine Ev.bind hto ?_
 refine Ev.bind (eqKeyS_refl _ hl2) ?_
 simp only [if_true]
 refine Ev.bind (markKeyS_ev _ hl2) ?_
 simp only [if_neg (show ¬ (1 + 4 * ((l.map toK).length : Int) < 0) by omega)]
 refine Ev.bind heq ?_
 simp only [if_true]
 refine Ev.bind hmark ?_
 refine Ev.bind hheld ?_
 simp only [if_neg (show ¬ (1 + 4 * (R.length : Int) < 0) by omega),if_true]
 refine Ev.bind hto ?_
 refine Ev.bind himpl ?_
 refine Ev.bind heq ?_
 simp only [if_true]
 refine Ev.bind hheld ?_
 simp only [if_neg (show ¬ (1 + 4 * (R.length : Int) < 0) by omega),if_true]
 exact Ev.now _
end Go.Proofs.Ytakocdkcfjkmdaa.Pure
namespace Go.Proofs.Ytakocdkcfjkmdaa.fnExactRotateRing
open Go.ChangeShapes Go.WideShapes Go.ChangeAt Go.RowKit Go.Proofs.Ytakocdkcfjkmdaa.Read Go.Proofs.YtakocdkcfjkmdaaW.PrintWords Go.Proofs.Ytakocdkcfjkmdaa.Pr
open Go.ChangeMaps (open_string shut_string)
set_option linter.unusedVariables false
theorem own : ownKnob Try.prog.godebug = none := by kernel_rfl
theorem laidOut : laidOutB Try.prog = true := by kernel_rfl
set_option maxRecDepth 100000 in
theorem lifted (os : Os) (started : os.Started) (H : Type) (enc : TypeId × Value → H) :
  ReturnsInHanded {} Try.checked os 6 .any (Rows.fnExactRotateRingSpec.pre6 enc Try.prog Try.f6 Rows.fnExactRotateRingRow.domain false) (Rows.fnExactRotateRingSpec.post enc Try.prog Try.f6 false true false false) := by
 refine returnsInHanded_of_change (C := Try.checked) own started (by kernel_rfl) Try.func6
  (ChangeSpec.witness6 (enc := enc) (C := Try.checked) false ⟨#[],#[.slice none 0 0,.agg #[.string ByteArray.empty,.int .i64 0,.int .i64 0,.int .i64 0],.int .i64 0,.int .i64 0],[]⟩ 8 (by kernel_rfl) (by kernel_rfl) (by kernel_rfl) (by kernel_rfl)) ?_
 intro W base args ds gs before hval0 hW hcnd _
 have hval : ∀ (j : Nat) t v,Try.f6.params[j]? = some t → args[j]? = some v → Value.okWide Try.prog W .any base t v := hval0
 have hW' := hW
 obtain ⟨p,q,hA0,hV,rfl,hfz,hnd⟩ := hW
 have hA : DataW.TrodAll enc Try.prog W 0 (fun _ => true) true Try.f6.params.toList args.toList ds p := hA0
 rw [Try.params6] at hA hval
 obtain ⟨v0,vs0,d0,ds0,p0,q0,hargs,rfl,rfl,h0,r0⟩ := trodAll_cons hA
 obtain ⟨v1,vs1,d1,ds1,p1,q1,rfl,rfl,rfl,h1,r1⟩ := trodAll_cons r0
 obtain ⟨v2,vs2,d2,ds2,p2,q2,rfl,rfl,rfl,h2,r2⟩ := trodAll_cons r1
 obtain ⟨v3,vs3,d3,ds3,p3,q3,rfl,rfl,rfl,h3,r3⟩ := trodAll_cons r2
 obtain ⟨rfl,rfl,rfl⟩ := trodAll_nil r3
 obtain rfl : args = #[v0,v1,v2,v3] := by cases args;simp_all
 obtain ⟨rfl,rfl⟩ := trodVars_none hV
 have lt0 : ∀ x ∈ p0,x.block < W.heap.size := by obtain ⟨m,hm⟩ := h0;exact DataW.trod_lt m _ _ _ hm
 have bk0 := fun {W' : World} (bel : Below W.heap.size W W') => Below.trod laidOut (by kernel_rfl) (of_decide_eq_true (by kernel_rfl)) h0 bel lt0
 obtain ⟨A0,c0,l0,rfl,hl0,hC0,o0⟩ := arg_slice Try.underlying31 (tellsL Try.underlying31 (by kernel_rfl) tells50) (hval 0 31 v0 rfl rfl) h0
 have lt1 : ∀ x ∈ p1,x.block < W.heap.size := by obtain ⟨m,hm⟩ := h1;exact DataW.trod_lt m _ _ _ hm
 have bk1 := fun {W' : World} (bel : Below W.heap.size W W') => Below.trod laidOut (by kernel_rfl) (of_decide_eq_true (by kernel_rfl)) h1 bel lt1
 obtain ⟨⟨a1_0,⟨a1_1,⟨a1_2,a1_3⟩⟩⟩,cs1,hv1,hK1,⟨o1_0,⟨o1_1,⟨o1_2,o1_3⟩⟩⟩⟩ := arg_struct Try.underlying50 (tells_struct Try.underlying50 (by kernel_rfl) (fs_cons rfl (tellsS Try.underlying9 (by kernel_rfl)) (fs_cons rfl (tellsI Try.underlying3 (by kernel_rfl)) (fs_cons rfl (tellsI Try.underlying3 (by kernel_rfl)) (fs_one rfl (tellsI Try.underlying3 (by kernel_rfl))))))) (hval 1 50 v1 rfl rfl) h1
 obtain ⟨_,_,rfl,rfl,⟨_,_,rfl,rfl,⟨_,_,rfl,rfl,rfl⟩⟩⟩ := hK1
 simp only [List.cons_append,List.nil_append] at hv1
 subst hv1
 have lt2 : ∀ x ∈ p2,x.block < W.heap.size := by obtain ⟨m,hm⟩ := h2;exact DataW.trod_lt m _ _ _ hm
 have bk2 := fun {W' : World} (bel : Below W.heap.size W W') => Below.trod laidOut (by kernel_rfl) (of_decide_eq_true (by kernel_rfl)) h2 bel lt2
 obtain ⟨a2,rfl,_,_,w2⟩ := open_int Try.underlying3 (hval 2 3 v2 rfl rfl) h2
 have o2 := int_bounds w2
 have lt3 : ∀ x ∈ p3,x.block < W.heap.size := by obtain ⟨m,hm⟩ := h3;exact DataW.trod_lt m _ _ _ hm
 have bk3 := fun {W' : World} (bel : Below W.heap.size W W') => Below.trod laidOut (by kernel_rfl) (of_decide_eq_true (by kernel_rfl)) h3 bel lt3
 obtain ⟨a3,rfl,_,_,w3⟩ := open_int Try.underlying3 (hval 3 3 v3 rfl rfl) h3
 have o3 := int_bounds w3
 obtain ⟨k,hk⟩ := Pure.FnExactRotateRing l0 a1_0 a1_1 a1_2 a1_3 a2 a3 o0 o1_0 o1_1 o1_2 o1_3 o2 o3
 refine (wz.calls k _ _ l0 a1_0 a1_1 a1_2 a1_3 a2 a3 true W hC0 hl0 hk).mono fun e W' hpost => ?_
 obtain ⟨he,hb⟩ := hpost
 have bel : Below W.heap.size W W' := hb
 subst he
 exact ⟨_,rfl,_,_,_,[],_,[],hW',trodAll_mk1 (shut_bool Try.underlying4 _),(trodAll_cons_mk (bk0 bel) (trodAll_cons_mk (bk1 bel) (trodAll_cons_mk (bk2 bel) (trodAll_cons_mk (bk3 bel) trodAll_mk0)))),rfl,bel.frame _,fun h => by cases h⟩
theorem over : Rows.fnExactRotateRingRow.holds Try.pinned (OpenSpec.ofChange Rows.fnExactRotateRingSpec) :=
 OpenClaim.holds_of_wide 6 Try.f6 rfl rfl rfl rfl rfl rfl rfl ⟨rfl,rfl,rfl,rfl,rfl⟩ rfl rfl rfl rfl rfl (by kernel_rfl) Try.func6 (by kernel_rfl)
  (of_decide_eq_true (by kernel_rfl)) (by unfold Func.isWrapper;first | (rw [if_pos (by decide +kernel)];kernel_rfl) | (rw [if_neg (by decide +kernel)];exact ⟨rfl,rfl⟩))
  (fun os started H enc _ => lifted os started H enc)
theorem proved : Rows.FnExactRotateRingSaid := over
#print axioms proved
end Go.Proofs.Ytakocdkcfjkmdaa.fnExactRotateRing
namespace Go.Proofs.Ytakocdkcfjkmdaa
theorem fnExactRotateRing_holds : Rows.FnExactRotateRingSaid := fnExactRotateRing.proved
end Go.Proofs.Ytakocdkcfjkmdaa
