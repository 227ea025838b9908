/- The law FnNames: whatever the input, the call returns true and the arguments read as before. No conditions. -/
import Derived.Test.YtccbjchlcelkgaaFullFnNamesD
import Derived.Test.YtccbjchlcelkgaaRows
import Derived.WalkKit
import Derived.ProofKit
import Derived.OpenShut
import Derived.ShutString
import Derived.ChangeOld
import Derived.Below
namespace Go.Proofs.Ytccbjchlcelkgaa.Pr
open Go.RowKit Go.Proofs.Ytccbjchlcelkgaa.Read Go.Proofs.YtccbjchlcelkgaaW.PrintWords
set_option linter.unusedVariables false
set_option linter.unusedSimpArgs false
theorem cur_ofm (s : List Int) (hs : okL okB s) (p h : Int) (l : List ByteArray) (hl : 1 ≤ l.length) (h0 : 0 ≤ p) (h1 : p ≤ 999999999999) : ∃ (t : ByteArray) (p' h' : Int),qzx.f s p h l = some (t,p',h') ∧ t ∈ l ∧ p ≤ p' ∧ p' ≤ p + 2 := by
 obtain ⟨v,p1,h1',e,v0,v1,g1,g2⟩ := cur_pick s hs p h l.length h0 h1
 unfold qzx.f
 simp only [e,Option.bind_some,if_pos v0,if_pos (show v < (l.length : Int) by omega)]
 refine ⟨_,_,_,rfl,?_,g1,g2⟩
 have hv : v.toNat < l.length := by omega
 show l.getD v.toNat ByteArray.empty ∈ l
 rw [List.getD_eq_getElem?_getD,List.getElem?_eq_getElem hv]
 exact List.getElem_mem hv
def smP (b : Nat) (l : List PtT) : Prop := ∀ x ∈ l,x.f0.size ≤ b ∧ x.f1.size ≤ b
theorem smP_app {b : Nat} {l m : List PtT} (h : smP b l) (g : smP b m) : smP b (l ++ m) := fun x hx => (List.mem_append.1 hx).elim (h x) (g x)
theorem smP_one {b : Nat} {a c : ByteArray} (ha : a.size ≤ b) (hc : c.size ≤ b) : smP b [(⟨a,c⟩ : PtT)] := fun x hx => by
 rw [List.mem_singleton.1 hx];exact ⟨ha,hc⟩
theorem of_small {t : ByteArray} {l : List ByteArray} {b : Nat} (h : t ∈ l) (hb : ∀ x ∈ l,x.size ≤ b) : t.size ≤ b := hb t h
theorem dirName_j0 (s : List Int) (hs : okL okB s) (p h : Int) (h0 : 0 ≤ p) (h1 : p ≤ 900000000000) (x3 : List PtT) (h3 : x3.length ≤ 1) (hx : smP 5 x3) : ∃ (n : List PtT) (p' h' : Int),(∀ k,1 < k → qzk.j0 k x3 s p h = some (n,p',h')) ∧ 1 ≤ n.length ∧ n.length ≤ 3 ∧ smP 5 n ∧ p ≤ p' ∧ p' ≤ p + 10 := by
 obtain ⟨b,p1,h1',e1,a1,b1⟩ := cur_one s hs p h 3 h0 (by omega)
 have ho : smP 5 [(⟨(⟨#[111]⟩ : ByteArray),(⟨#[111,114,103]⟩ : ByteArray)⟩ : PtT)] := smP_one (by decide) (by decide)
 cases b with
 | true =>
  refine ⟨x3 ++ [⟨⟨#[111]⟩,⟨#[111,114,103]⟩⟩],p1,h1',fun k hk => ?_,by rw [List.length_append];simp,by rw [List.length_append];simp;omega,smP_app hx ho,by omega,by omega⟩
  obtain ⟨k,rfl⟩ : ∃ m,k = m + 1 := ⟨k - 1,by omega⟩
  simp only [qzk.j0,e1,Option.bind_some,if_true,if_pos (show x3.length < 4398046511104 by omega)]
 | false =>
  obtain ⟨t,p2,h2',e2,hm,a2,b2⟩ := cur_ofm s hs p1 h1' ([(⟨#[108,97,98]⟩ : ByteArray),(⟨#[115,97,108,101,115]⟩ : ByteArray)] : List ByteArray) (by decide) (by omega) (by omega)
  have ht : t.size ≤ 5 := of_small hm (by decide)
  refine ⟨(x3 ++ [⟨⟨#[111,117]⟩,t⟩]) ++ [⟨⟨#[111]⟩,⟨#[111,114,103]⟩⟩],p2,h2',fun k hk => ?_,by rw [List.length_append];simp,by rw [List.length_append,List.length_append];simp;omega,smP_app (smP_app hx (smP_one (by decide) ht)) ho,by omega,by omega⟩
  obtain ⟨k,rfl⟩ : ∃ m,k = m + 1 := ⟨k - 1,by omega⟩
  simp only [qzk.j0,e1,e2,Option.bind_some,Bool.false_eq_true,if_false,if_pos (show x3.length < 4398046511104 by omega),List.length_append,List.length_singleton,if_pos (show x3.length + 1 < 4398046511104 by omega)]
theorem cur_dirName (s : List Int) (hs : okL okB s) (p h : Int) (h0 : 0 ≤ p) (h1 : p ≤ 800000000000) : ∃ (n : List PtT) (p' h' : Int),(∀ k,1 < k → qzk.f k s p h = some (n,p',h')) ∧ 1 ≤ n.length ∧ n.length ≤ 3 ∧ smP 5 n ∧ p ≤ p' ∧ p' ≤ p + 20 := by
 obtain ⟨b,p1,h1',e1,a1,b1⟩ := cur_one s hs p h 4 h0 (by omega)
 cases b with
 | true =>
  obtain ⟨n,p',h',e,n1,n2,hsm,g1,g2⟩ := dirName_j0 s hs p1 h1' (by omega) (by omega) [] (by simp) (fun x hx => absurd hx List.not_mem_nil)
  refine ⟨n,p',h',fun k hk => ?_,n1,n2,hsm,by omega,by omega⟩
  simp only [qzk.f,e1,Option.bind_some,if_true]
  exact e k hk
 | false =>
  obtain ⟨t,p2,h2',e2,hm,a2,b2⟩ := cur_ofm s hs p1 h1' ([(⟨#[97,110,110]⟩ : ByteArray),(⟨#[98,111,98]⟩ : ByteArray),(⟨#[67,121]⟩ : ByteArray),(⟨#[100,44,101]⟩ : ByteArray),(⟨#[92,102]⟩ : ByteArray)] : List ByteArray) (by decide) (by omega) (by omega)
  have ht : t.size ≤ 5 := of_small hm (by decide)
  obtain ⟨n,p',h',e,n1,n2,hsm,g1,g2⟩ := dirName_j0 s hs p2 h2' (by omega) (by omega) ([] ++ [⟨⟨#[99,110]⟩,t⟩]) (by simp) (smP_app (fun x hx => absurd hx List.not_mem_nil) (smP_one (by decide) ht))
  refine ⟨n,p',h',fun k hk => ?_,n1,n2,hsm,by omega,by omega⟩
  simp only [qzk.f,e1,e2,Option.bind_some,Bool.false_eq_true,if_false,List.length_nil,if_pos (show 0 < 4398046511104 by decide)]
  exact e k hk
theorem smP_set {b : Nat} {l : List PtT} (h : smP b l) (i : Nat) {a c : ByteArray} (ha : a.size ≤ b) (hc : c.size ≤ b) : smP b (l.set i ⟨a,c⟩) := fun x hx => by
 rcases List.mem_or_eq_of_mem_set hx with hx | hx
 ·exact h x hx
 ·rw [hx];exact ⟨ha,hc⟩
theorem smP_up {a b : Nat} {l : List PtT} (h : smP a l) (hab : a ≤ b) : smP b l := fun x hx => ⟨Nat.le_trans (h x hx).1 hab,Nat.le_trans (h x hx).2 hab⟩
theorem odd_l0 (n : List PtT) (hn : 1 ≤ n.length) (hsm : smP 5 n) (s : List Int) (p h : Int) (d : Nat) : ∀ (i : Nat) (x5 : List Int),i + d = x5.length → x5.length ≤ 100 → ∃ n' : List PtT,Ev (fun k => qzw.l0 k n x5 (x5.length : Int) (i : Int) s p h) (n',p,h) ∧ n'.length = n.length ∧ smP 100 n' := by
 induction d with
 | zero =>
  intro i x5 hi hl
  obtain rfl : i = x5.length := by omega
  have hr : (vz n 0).f0.size ≤ 5 := by
   have e : vz n 0 = n[0] := rdP_nat (i := 0) hn
   rw [e]
   exact (hsm _ (List.getElem_mem hn)).1
  refine ⟨n.set (0 : Int).toNat ⟨(vz n 0).f0,strOfNums x5⟩,Ev.upP ?_,?_,?_⟩
  ·simp only [qzw.l0,if_neg (Int.lt_irrefl _),if_pos (show (0 : Int) < (n.length : Int) by omega)]
   exact Ev.now _
  ·rw [List.length_set]
  ·exact smP_set (smP_up hsm (by omega)) _ (by omega) (by rw [strOfNums_size];exact hl)
 | succ d ih =>
  intro i x5 hi hl
  have e2 : wrap64 ((i : Int) + 1) = ((i + 1 : Nat) : Int) := by rw [w64 (by omega) (by omega)];rfl
  obtain ⟨n',e,g1,g2⟩ := ih (i + 1) (x5.set i 119) (by rw [List.length_set];omega) (by rw [List.length_set];exact hl)
  rw [List.length_set] at e
  refine ⟨n',Ev.upP ?_,g1,g2⟩
  simp only [qzw.l0,if_pos (show (i : Int) < (x5.length : Int) by omega),if_pos (Int.natCast_nonneg i),Int.toNat_natCast,e2]
  exact e
theorem odd_l1 (s : List Int) (p h : Int) (T : Nat) (hT : T ≤ 20) (d : Nat) : ∀ n : List PtT,T - n.length ≤ d → n.length ≤ 20 → smP 100 n → ∃ n' : List PtT,Ev (fun k => qzw.l1 k n (T : Int) s p h) (n',p,h) ∧ n'.length ≤ 20 ∧ n.length ≤ n'.length ∧ smP 100 n' := by
 induction d with
 | zero =>
  intro n hd hl hsm
  refine ⟨n,Ev.upP ?_,hl,Nat.le_refl _,hsm⟩
  simp only [qzw.l1,if_neg (show ¬ (n.length : Int) < (T : Int) by omega)]
  exact Ev.now _
 | succ d ih =>
  intro n hd hl hsm
  by_cases hlt : n.length < T
  ·obtain ⟨n',e,g1,g2,g3⟩ := ih (n ++ [⟨⟨#[120]⟩,⟨#[121]⟩⟩]) (by rw [List.length_append,List.length_singleton];omega) (by rw [List.length_append,List.length_singleton];omega) (smP_app hsm (smP_one (by decide) (by decide)))
   rw [List.length_append,List.length_singleton] at g2
   refine ⟨n',Ev.upP ?_,g1,by omega,g3⟩
   simp only [qzw.l1,if_pos (show (n.length : Int) < (T : Int) by omega),if_pos (show n.length < 4398046511104 by omega)]
   exact e
  ·refine ⟨n,Ev.upP ?_,hl,Nat.le_refl _,hsm⟩
   simp only [qzw.l1,if_neg (show ¬ (n.length : Int) < (T : Int) by omega)]
   exact Ev.now _
theorem cur_oddDirName (s : List Int) (hs : okL okB s) (p h : Int) (h0 : 0 ≤ p) (h1 : p ≤ 700000000000) (n : List PtT) (hn : 1 ≤ n.length) (hn3 : n.length ≤ 3) (hsm : smP 5 n) : ∃ (n' : List PtT) (p' h' : Int),Ev (fun k => qzw.f k s p h n) (n',p',h') ∧ n'.length ≤ 20 ∧ smP 100 n' ∧ p ≤ p' ∧ p' ≤ p + 20 := by
 obtain ⟨v,p1,h1',e1,v0,v1,a1,b1⟩ := cur_pick s hs p h 14 h0 (by omega)
 have hr := hsm _ (List.getElem_mem (show 0 < n.length from hn))
 have er : vz n 0 = n[0] := rdP_nat (i := 0) hn
 rw [← er] at hr
 have hp : (0 : Int) < (n.length : Int) := by omega
 simp only [qzw.f,e1,Option.bind_some]
 by_cases c0 : v = 0
 ·obtain ⟨t,p2,h2',e2,hm,a2,b2⟩ := cur_ofm s hs p1 h1' ([(⟨#[]⟩ : ByteArray),(⟨#[49]⟩ : ByteArray),(⟨#[97,45,98]⟩ : ByteArray)] : List ByteArray) (by decide) (by omega) (by omega)
  have ht : t.size ≤ 3 := of_small hm (by decide)
  refine ⟨n.set 0 ⟨t,(vz n 0).f1⟩,p2,h2',?_,by rw [List.length_set];omega,smP_set (smP_up hsm (by omega)) _ (by omega) (by omega),by omega,by omega⟩
  simp only [if_pos c0,e2,Option.bind_some,if_pos hp]
  exact Ev.now _
 by_cases c1 : v = 1
 ·obtain ⟨m,p2,h2',e2,m0,m1,a2,b2⟩ := cur_pick s hs p1 h1' 3 (by omega) (by omega)
  obtain ⟨M,hM⟩ := Int.eq_ofNat_of_zero_le m0
  have ew : wrap64 (59 + m) = ((59 + M : Nat) : Int) := by rw [w64 (by omega) (by omega)];omega
  obtain ⟨n',e,g1,g2⟩ := odd_l0 n hn hsm s p2 h2' (59 + M) 0 (List.replicate (59 + M) 0) (by rw [List.length_replicate];omega) (by rw [List.length_replicate];omega)
  refine ⟨n',p2,h2',?_,by omega,g2,by omega,by omega⟩
  simp only [if_neg c0,if_pos c1,e2,Option.bind_some,ew,if_pos (Int.natCast_nonneg (59 + M)),Int.toNat_natCast,if_pos (show 59 + M ≤ 281474976710656 by omega)]
  exact e
 by_cases c2 : v = 2
 ·obtain ⟨t,p2,h2',e2,hm,a2,b2⟩ := cur_ofm s hs p1 h1' ([(⟨#[]⟩ : ByteArray),(⟨#[9]⟩ : ByteArray)] : List ByteArray) (by decide) (by omega) (by omega)
  have ht : t.size ≤ 3 := of_small hm (by decide)
  refine ⟨n.set 0 ⟨(vz n 0).f0,t⟩,p2,h2',?_,by rw [List.length_set];omega,smP_set (smP_up hsm (by omega)) _ (by omega) (by omega),by omega,by omega⟩
  simp only [if_neg c0,if_neg c1,if_pos c2,e2,Option.bind_some,if_pos hp]
  exact Ev.now _
 by_cases c3 : v = 3
 ·obtain ⟨m,p2,h2',e2,m0,m1,a2,b2⟩ := cur_pick s hs p1 h1' 3 (by omega) (by omega)
  obtain ⟨M,hM⟩ := Int.eq_ofNat_of_zero_le m0
  have ew : wrap64 (7 + m) = ((7 + M : Nat) : Int) := by rw [w64 (by omega) (by omega)];omega
  obtain ⟨n',e,g1,g2,g3⟩ := odd_l1 s p2 h2' (7 + M) (by omega) 20 n (by omega) (by omega) (smP_up hsm (by omega))
  refine ⟨n',p2,h2',?_,g1,g3,by omega,by omega⟩
  simp only [if_neg c0,if_neg c1,if_neg c2,if_pos c3,e2,Option.bind_some,ew]
  exact e
 ·refine ⟨n,p1,h1',?_,by omega,smP_up hsm (by omega),by omega,by omega⟩
  simp only [if_neg c0,if_neg c1,if_neg c2,if_neg c3]
  exact Ev.now _
theorem okP_small {l : List PtT} (hl : l.length ≤ 100) (h : smP 100 l) : okP l := ⟨by omega,fun x hx => ⟨by have := (h x hx).1;omega,by have := (h x hx).2;omega⟩⟩
theorem nameTxt_small {l : List PtT} (hl : l.length ≤ 3) (h : smP 5 l) : (nameTxt l).size ≤ 100 := by
 unfold nameTxt
 split
 ·unfold nameT
  rw [arr_size]
  have := joinL_len (l.map partB) 16 (fun x hx => by
   obtain ⟨p,hp,rfl⟩ := List.mem_map.1 hx
   have h1 := partB_size p
   have h2 := h p hp
   omega)
  rw [List.length_map] at this
  omega
 ·decide
end Go.Proofs.Ytccbjchlcelkgaa.Pr
namespace Go.Proofs.Ytccbjchlcelkgaa.Pure
open Go.RowKit Go.Proofs.Ytccbjchlcelkgaa.Read Go.Proofs.YtccbjchlcelkgaaW.PrintWords Go.Proofs.Ytccbjchlcelkgaa.Pr
set_option linter.unusedVariables false
set_option linter.unusedSimpArgs false
theorem zParts_l0 (l : List PtT) (hn : l.length ≤ 100000) (d : Nat) : ∀ i : Nat,i + d = l.length → Ev (fun k => qqk.l0 k l l (l.length : Int) (i : Int)) true := by
 induction d with
 | zero =>
  intro i hi
  obtain rfl : i = l.length := by omega
  refine Ev.upP ?_
  simp only [qqk.l0,if_neg (Int.lt_irrefl _)]
  exact Ev.now _
 | succ d ih =>
  intro i hi
  have e2 : wrap64 ((i : Int) + 1) = ((i + 1 : Nat) : Int) := by rw [w64 (by omega) (by omega)];rfl
  refine Ev.upP ?_
  simp only [qqk.l0,if_pos (show (i : Int) < (l.length : Int) by omega),if_pos (Int.natCast_nonneg i),beq_self_eq_true,Bool.not_true,Bool.or_self,if_neg (show ¬ (false = true) by decide),e2]
  exact ih (i + 1) (by omega)
theorem zParts_same (l : List PtT) (hn : l.length ≤ 100000) : Ev (fun k => qqk.f k l l) true := by
 simp only [qqk.f,if_true]
 exact zParts_l0 l hn l.length 0 (by omega)
theorem eqParts_l0 (l : List PtT) (hn : l.length ≤ 100000) (d : Nat) : ∀ i : Nat,i + d = l.length → Ev (fun k => ww.l0 k l l (l.length : Int) (i : Int)) true := by
 induction d with
 | zero =>
  intro i hi
  obtain rfl : i = l.length := by omega
  refine Ev.upP ?_
  simp only [ww.l0,if_neg (Int.lt_irrefl _)]
  exact Ev.now _
 | succ d ih =>
  intro i hi
  have e2 : wrap64 ((i : Int) + 1) = ((i + 1 : Nat) : Int) := by rw [w64 (by omega) (by omega)];rfl
  refine Ev.upP ?_
  simp only [ww.l0,if_pos (show (i : Int) < (l.length : Int) by omega),if_pos (Int.natCast_nonneg i),beq_self_eq_true,Bool.not_true,Bool.or_self,if_neg (show ¬ (false = true) by decide),e2]
  exact ih (i + 1) (by omega)
theorem eqParts_same (l : List PtT) (hn : l.length ≤ 100000) : Ev (fun k => ww.f k l l) true := by
 simp only [ww.f,if_true]
 exact eqParts_l0 l hn l.length 0 (by omega)
theorem goodN_ok {l : List PtT} (h : goodN l = true) : okP l := by
 unfold goodN at h
 rw [Bool.and_eq_true,List.all_eq_true,decide_eq_true_eq] at h
 refine ⟨by omega,fun x hx => ?_⟩
 have := goodP_sizes (h.1 x hx)
 exact ⟨by omega,by omega⟩
theorem under_tail (n : List PtT) (h : goodN n = true) (i : Nat) (hi : i ≤ n.length) : Ev (fun k => xz.f k n (n.drop i)) true := by
 have hd := goodN_drop h i
 have ho := goodN_ok h
 have hn := ho.1
 simp only [xz.f]
 refine Ev.bind (implDirName_ev n ho) ?_
 simp only [h,if_true]
 refine Ev.bind (implDirName_ev _ (goodN_ok hd)) ?_
 have ew : wrap64 ((n.length : Int) - ((n.drop i).length : Int)) = (i : Int) := by rw [List.length_drop,w64 (by omega) (by omega)];omega
 simp only [hd,if_true,if_pos (show (n.length : Int) ≥ ((n.drop i).length : Int) by rw [List.length_drop];omega),ew,if_pos (Int.natCast_nonneg i),if_pos (show (i : Int) ≤ (n.length : Int) by omega),Int.toNat_natCast]
 exact Ev.bind (eqParts_same (n.drop i) (by rw [List.length_drop];omega)) (Ev.now _)
theorem under_not (n : List PtT) (h : goodN n = true) (i : Nat) (h0 : 0 < i) (hi : i ≤ n.length) : Ev (fun k => xz.f k (n.drop i) n) false := by
 have hd := goodN_drop h i
 have ho := goodN_ok h
 simp only [xz.f]
 refine Ev.bind (implDirName_ev _ (goodN_ok hd)) ?_
 simp only [hd,if_true]
 refine Ev.bind (implDirName_ev n ho) ?_
 simp only [h,if_true,if_neg (show ¬ ((n.drop i).length : Int) ≥ (n.length : Int) by rw [List.length_drop];omega)]
 exact Ev.now _
theorem readM_ok (t : ByteArray) : (readM t = ([],false)) ∨ (∃ y,readM t = (y,true) ∧ okP y ∧ nameTxt y = t) := by
 unfold readM
 by_cases h0 : t.size = 0
 ·rw [if_pos h0]
  refine .inr ⟨[],rfl,⟨by simp,fun x hx => absurd hx List.not_mem_nil⟩,?_⟩
  have e : t.data.toList = [] := List.eq_nil_of_length_eq_zero (by rw [data_length];exact h0)
  apply data_ext
  rw [e]
  rfl
 ·rw [if_neg h0]
  by_cases h2 : 2000 < t.size
  ·rw [if_pos h2];exact .inl rfl
  ·rw [if_neg h2]
   cases pR [] .at [] [] t.data.toList with
   | none => exact .inl rfl
   | some y =>
    show (if nameTxt y = t then (y,true) else ([],false)) = _ ∨ ∃ z,(if nameTxt y = t then (y,true) else ([],false)) = _ ∧ _
    by_cases hq : nameTxt y = t
    ·rw [if_pos hq]
     refine .inr ⟨y,rfl,?_,hq⟩
     by_cases hg : goodN y = true
     ·exact goodN_ok hg
     ·refine absurd ?_ h0
      rw [← hq]
      unfold nameTxt
      rw [if_neg hg]
      rfl
    ·rw [if_neg hq];exact .inl rfl
theorem second_ev (t : ByteArray) : Ev (fun k => (wx.f k t).bind fun bt133 => ((qzj.f k t).bind fun bt137 => (if (bt133.2 == bt137.2) = true then ((qqk.f k bt133.1 bt137.1).bind fun t141 => (if t141 = true then (if bt133.2 = true then ((wv.f k bt133.1).bind fun t142 => (some (t142.toList == t.toList))) else (some true)) else (none))) else (none)))) true := by
 refine Ev.bind (implRead_ev t) ?_
 refine Ev.bind (specRead_ev t) ?_
 rcases readM_ok t with e | ⟨y,e,hy,ht⟩
 ·rw [e]
  simp only [beq_self_eq_true,if_true]
  refine Ev.bind (zParts_same [] (by simp)) ?_
  simp only [if_true,Bool.false_eq_true,if_false]
  exact Ev.now _
 ·rw [e]
  simp only [beq_self_eq_true,if_true]
  refine Ev.bind (zParts_same y hy.1) ?_
  simp only [if_true]
  refine Ev.bind (implText_ev y hy) ?_
  rw [ht,beq_self_eq_true]
  exact Ev.now _
theorem drawNameText_ev (s : List Int) (hs : okL okB s) : ∃ n : List PtT,Ev (fun k => qqv.f k s) n ∧ okP n := by
 obtain ⟨n,p1,h1',e1,n1,n2,sm,a1,b1⟩ := cur_dirName s hs 0 0 (by omega) (by omega)
 obtain ⟨n',p2,h2',e2,m1,sm2,a2,b2⟩ := cur_oddDirName s hs p1 h1' (by omega) (by omega) n n1 n2 sm
 refine ⟨n',?_,okP_small (by omega) sm2⟩
 simp only [qqv.f,newCur.f,Option.bind_some]
 refine Ev.bind (a := (n,p1,h1')) ⟨2,fun k hk => e1 k (by omega)⟩ ?_
 exact Ev.bind e2 (Ev.now _)
theorem drawReadName_ev (s : List Int) (hs : okL okB s) : ∃ t : ByteArray,Ev (fun k => qqw.f k s) t := by
 obtain ⟨n,p1,h1',e1,n1,n2,sm,a1,b1⟩ := cur_dirName s hs 0 0 (by omega) (by omega)
 obtain ⟨t,p2,h2',e2,a2,b2⟩ := cur_spoilt s hs (⟨#[44,61,92,97,32]⟩ : ByteArray) (by decide) (nameTxt n) (nameTxt_small n2 sm) p1 h1' (by omega) (by omega)
 refine ⟨t,?_⟩
 simp only [qqw.f,newCur.f,Option.bind_some]
 refine Ev.bind (a := (n,p1,h1')) ⟨2,fun k hk => e1 k (by omega)⟩ ?_
 refine Ev.bind (specText_ev n (okP_small (by omega) (smP_up sm (by omega)))) ?_
 exact Ev.bind (a := (t,p2,h2')) ⟨11,fun k hk => e2 k (by omega)⟩ (Ev.now _)
theorem names_l0 (s : List Int) (t : ByteArray) (ht : Ev (fun k => qqw.f k s) t) (n : List PtT) (hg : goodN n = true) (d : Nat) : ∀ i : Nat,i + d = n.length + 1 → Ev (fun k => qqj.l0 k s n (i : Int)) true := by
 have hn := (goodN_ok hg).1
 induction d with
 | zero =>
  intro i hi
  refine Ev.upP ?_
  simp only [qqj.l0,if_neg (show ¬ (i : Int) ≤ (n.length : Int) by omega)]
  exact Ev.bind ht (second_ev t)
 | succ d ih =>
  intro i hi
  have e2 : wrap64 ((i : Int) + 1) = ((i + 1 : Nat) : Int) := by rw [w64 (by omega) (by omega)];rfl
  have hle : i ≤ n.length := by omega
  refine Ev.upP ?_
  simp only [qqj.l0,if_pos (show (i : Int) ≤ (n.length : Int) by omega),if_pos (Int.natCast_nonneg i),Int.toNat_natCast,e2]
  refine Ev.bind (under_tail n hg i hle) ?_
  simp only [if_true]
  by_cases h0 : (i : Int) > 0
  ·simp only [if_pos h0]
   refine Ev.bind (under_not n hg i (by omega) hle) ?_
   simp only [Bool.false_eq_true,if_false]
   exact ih (i + 1) (by omega)
  ·simp only [if_neg h0]
   exact ih (i + 1) (by omega)
theorem FnNames : qqj.Pure := by
 intro s hs
 apply Ev.rounds
 simp only [qqj.f]
 by_cases hbig : (s.length : Int) > 1048576
 ·simp only [if_pos hbig];exact Ev.now _
 simp only [if_neg hbig]
 obtain ⟨n,hd,hok⟩ := drawNameText_ev s hs
 obtain ⟨t,hr⟩ := drawReadName_ev s hs
 refine Ev.bind hd ?_
 refine Ev.bind (implText_ev n hok) ?_
 refine Ev.bind (specText_ev n hok) ?_
 simp only [if_true]
 by_cases hz : (nameTxt n).toList = ([] : List UInt8)
 ·simp only [if_pos hz]
  exact Ev.bind hr (second_ev t)
 ·simp only [if_neg hz]
  have hg : goodN n = true := by
   cases hgn : goodN n with
   | true => rfl
   | false =>
    refine absurd ?_ hz
    unfold nameTxt
    rw [hgn]
    exact nil_bytes.2 rfl
  have hne : n ≠ [] := by
   intro e
   subst e
   exact hz (nil_bytes.2 rfl)
  have et : nameTxt n = nameT n := by unfold nameTxt;rw [if_pos hg]
  rw [et]
  refine Ev.bind (implRead_ev (nameT n)) ?_
  rw [readM_text hg hne]
  simp only [if_true]
  refine Ev.bind (zParts_same n hok.1) ?_
  simp only [if_true]
  exact names_l0 s t hr n hg (n.length + 1) 0 (by omega)
end Go.Proofs.Ytccbjchlcelkgaa.Pure
namespace Go.Proofs.Ytccbjchlcelkgaa.fnNames
open Go.ChangeShapes Go.WideShapes Go.ChangeAt Go.RowKit Go.Proofs.Ytccbjchlcelkgaa.Read Go.Proofs.YtccbjchlcelkgaaW.PrintWords Go.Proofs.Ytccbjchlcelkgaa.Pr
open Go.ChangeMaps (open_string shut_string)
set_option linter.unusedVariables false
theorem own : ownKnob Try.prog.godebug = none := by kernel_rfl
theorem laidOut : laidOutB Try.prog = true := by kernel_rfl
set_option maxRecDepth 100000 in
theorem lifted (os : Os) (started : os.Started) (H : Type) (enc : TypeId × Value → H) :
  ReturnsInHanded {} Try.checked os 9 .any (Rows.fnNamesSpec.pre6 enc Try.prog Try.f9 Rows.fnNamesRow.domain false) (Rows.fnNamesSpec.post enc Try.prog Try.f9 false true false false) := by
 refine returnsInHanded_of_change (C := Try.checked) own started (by kernel_rfl) Try.func9
  (ChangeSpec.witness6 (enc := enc) (C := Try.checked) false ⟨#[],#[.slice none 0 0],[]⟩ 8 (by kernel_rfl) (by kernel_rfl) (by kernel_rfl) (by kernel_rfl)) ?_
 intro W base args ds gs before hval0 hW hcnd _
 have hval : ∀ (j : Nat) t v,Try.f9.params[j]? = some t → args[j]? = some v → Value.okWide Try.prog W .any base t v := hval0
 have hW' := hW
 obtain ⟨p,q,hA0,hV,rfl,hfz,hnd⟩ := hW
 have hA : DataW.TrodAll enc Try.prog W 0 (fun _ => true) true Try.f9.params.toList args.toList ds p := hA0
 rw [Try.params9] at hA hval
 obtain ⟨v0,vs0,d0,ds0,p0,q0,hargs,rfl,rfl,h0,r0⟩ := trodAll_cons hA
 obtain ⟨rfl,rfl,rfl⟩ := trodAll_nil r0
 obtain rfl : args = #[v0] := by cases args;simp_all
 obtain ⟨rfl,rfl⟩ := trodVars_none hV
 have lt0 : ∀ x ∈ p0,x.block < W.heap.size := by obtain ⟨m,hm⟩ := h0;exact DataW.trod_lt m _ _ _ hm
 have bk0 := fun {W' : World} (bel : Below W.heap.size W W') => Below.trod laidOut (by kernel_rfl) (of_decide_eq_true (by kernel_rfl)) h0 bel lt0
 obtain ⟨A0,c0,l0,rfl,hl0,hC0,o0⟩ := arg_slice Try.underlying22 (tellsL Try.underlying22 (by kernel_rfl) (tellsB Try.underlying5 (by kernel_rfl))) (hval 0 22 v0 rfl rfl) h0
 obtain ⟨k,hk⟩ := Pure.FnNames l0 o0
 refine (qqj.calls k _ _ l0 true W hC0 hl0 hk).mono fun e W' hpost => ?_
 obtain ⟨he,hb⟩ := hpost
 have bel : Below W.heap.size W W' := hb
 subst he
 exact ⟨_,rfl,_,_,_,[],_,[],hW',trodAll_mk1 (shut_bool Try.underlying4 _),(trodAll_cons_mk (bk0 bel) trodAll_mk0),rfl,bel.frame _,fun h => by cases h⟩
theorem over : Rows.fnNamesRow.holds Try.pinned (OpenSpec.ofChange Rows.fnNamesSpec) :=
 OpenClaim.holds_of_wide 9 Try.f9 rfl rfl rfl rfl rfl rfl rfl ⟨rfl,rfl,rfl,rfl,rfl⟩ rfl rfl rfl rfl rfl (by kernel_rfl) Try.func9 (by kernel_rfl)
  (of_decide_eq_true (by kernel_rfl)) (by unfold Func.isWrapper;first | (rw [if_pos (by decide +kernel)];kernel_rfl) | (rw [if_neg (by decide +kernel)];exact ⟨rfl,rfl⟩))
  (fun os started H enc _ => lifted os started H enc)
theorem proved : Rows.FnNamesSaid := over
#print axioms proved
end Go.Proofs.Ytccbjchlcelkgaa.fnNames
namespace Go.Proofs.Ytccbjchlcelkgaa
theorem fnNames_holds : Rows.FnNamesSaid := fnNames.proved
end Go.Proofs.Ytccbjchlcelkgaa
