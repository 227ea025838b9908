/- The law FnSets: whatever the input, the call returns true and the arguments read as before. No conditions. -/
import Derived.Test.YtccbjchlcelkgaaFullFnSetsE
import Derived.Laws.Strings
import Derived.StillTailTactics
import Derived.Test.YtccbjchlcelkgaaRows
import Derived.WalkKit
import Derived.ProofKit
import Derived.OpenShut
import Derived.ShutString
import Derived.ChangeOld
import Derived.Below
set_option maxHeartbeats 8000000
set_option maxRecDepth 100000
open List renaming map_toArray → jq0, map_cons → jq1, map_nil → jq2, length_drop → jq3, length_take → jq4, setIfInBounds_toArray → jq5, set_cons_zero → jq6, set_cons_succ → jq7
open Option renaming bind_eq_some_iff → jq8
open Bool renaming eq_false_iff → jq9, true → Z, false → Y
namespace Go.Proofs.Ytccbjchlcelkgaa.Pr
open Go.RowKit Go.Proofs.Ytccbjchlcelkgaa.Read Go.Proofs.YtccbjchlcelkgaaW.PrintWords
def nletC (c:Int):Bool:=decide (97≤c∧c≤122∨65≤c∧c≤90)
def ndigC (c:Int):Bool:=decide (48≤c∧c≤57)
theorem nsletter_eq (c:Int):qkk.f c=some (nletC c):=by
 unfold qkk.f nletC
 split
 ·split
  ·congr 1;symm;rw[decide_eq_true_eq];omega
  ·split
   ·congr 1;rw[decide_eq_decide];omega
   ·congr 1;symm;rw[decide_eq_false_iff_not];omega
 ·split
  ·congr 1;rw[decide_eq_decide];omega
  ·congr 1;symm;rw[decide_eq_false_iff_not];omega
theorem nsdigit_eq (c:Int):qkj.f c=some (ndigC c):=by
 unfold qkj.f ndigC
 split
 ·congr 1;rw[decide_eq_decide];omega
 ·congr 1;symm;rw[decide_eq_false_iff_not];omega
theorem niletter_eq (c:Int):xw.f c=some (nletC c):=by
 unfold xw.f nletC
 split
 ·split
  ·congr 1;symm;rw[decide_eq_true_eq];omega
  ·split
   ·congr 1;rw[decide_eq_decide];omega
   ·congr 1;symm;rw[decide_eq_false_iff_not];omega
 ·split
  ·congr 1;rw[decide_eq_decide];omega
  ·congr 1;symm;rw[decide_eq_false_iff_not];omega
theorem nidigit_eq (c:Int):xk.f c=some (ndigC c):=by
 unfold xk.f ndigC
 split
 ·congr 1;rw[decide_eq_decide];omega
 ·congr 1;symm;rw[decide_eq_false_iff_not];omega
def nameC (c:Int):Bool:=if nletC c=true then true else if ndigC c=true then true else if c=95 then true else false
def nameN (s:ByteArray):Nat→Bool
 | 0=>true
 | d + 1=>if nameC (bt s ((s.size - (d + 1):Nat):Int))=true then nameN s d else false
theorem sName_l0 (s:ByteArray) (hs:s.size≤9223372036854775807) (d:Nat):∀ (k i:Nat),s.size - i=d→i≤s.size→d < k→qzq.l0 k s i=some (nameN s d):=by
 induction d with
 | zero =>
  intro k i hd hi hk
  obtain⟨k,rfl⟩ : ∃ m,k=m + 1:=⟨k - 1,by omega⟩
  simp only[qzq.l0]
  rw[if_neg (by omega)]
  rfl
 | succ d ih =>
  intro k i hd hi hk
  obtain⟨k,rfl⟩ : ∃ m,k=m + 1:=⟨k - 1,by omega⟩
  have e0:s.size - (d + 1)=i:=by omega
  simp only[qzq.l0,nameN,e0,nsletter_eq,nsdigit_eq,Option.bind_some]
  rw[if_pos (by omega),if_pos (by omega),w64 (by omega) (by omega),show((i:Int) + 1)=((i + 1:Nat):Int) from rfl,ih k (i + 1) (by omega) (by omega) (by omega)]
  unfold nameC
  split
  ·simp only[if_true]
  ·split
   ·simp only[if_true]
   ·split <;> simp only[if_true,Bool.false_eq_true,if_false]
theorem iName_l0 (s:ByteArray) (hs:s.size≤9223372036854775807) (d:Nat):∀ (k i:Nat),s.size - i=d→i≤s.size→d < k→wv.l0 k s (s.size:Int) i=some (nameN s d):=by
 induction d with
 | zero =>
  intro k i hd hi hk
  obtain⟨k,rfl⟩ : ∃ m,k=m + 1:=⟨k - 1,by omega⟩
  simp only[wv.l0]
  rw[if_neg (by omega)]
  rfl
 | succ d ih =>
  intro k i hd hi hk
  obtain⟨k,rfl⟩ : ∃ m,k=m + 1:=⟨k - 1,by omega⟩
  have e0:s.size - (d + 1)=i:=by omega
  simp only[wv.l0,nameN,e0,qqq.f,niletter_eq,nidigit_eq,Option.bind_some]
  rw[if_pos (by omega),if_pos (by omega),if_pos (by omega),w64 (by omega) (by omega),show((i:Int) + 1)=((i + 1:Nat):Int) from rfl,ih k (i + 1) (by omega) (by omega) (by omega)]
  unfold nameC
  by_cases h1:nletC (bt s (i:Int))=true
  ·simp only[h1,if_true,Option.bind_some]
  ·simp only[h1,Bool.false_eq_true,if_false]
   by_cases h2:ndigC (bt s (i:Int))=true
   ·simp only[h2,if_true,Option.bind_some]
   ·simp only[h2,Bool.false_eq_true,if_false,Option.bind_some,beq_iff_eq]
    by_cases h3:bt s (i:Int)=95
    ·simp only[h3,if_true]
    ·simp only[h3,if_false,Bool.false_eq_true]
def goodName (s:ByteArray):Bool:=if 1≤s.size∧s.size≤30 then(if ndigC (bt s 0)=true then false else nameN s s.size) else false
theorem list_nil_size {s:ByteArray} : s.toList=([]:List UInt8) ↔ s.size=0:=by
 rw[ByteArray.toList_eq]
 constructor
 ·intro h
  have:=congrArg List.length h
  rwa [data_length] at this
 ·intro h
  exact List.eq_nil_of_length_eq_zero (by rw[data_length];exact h)
theorem specName_ev (s:ByteArray) (hs:s.size≤9223372036854775807):Ev (fun k=>qzq.f k s) (goodName s):=by
 refine⟨s.size + 3,fun k hk=>?_⟩
 obtain⟨k,rfl⟩ : ∃ m,k=m + 1:=⟨k - 1,by omega⟩
 show qzq.f (k + 1) s=_
 simp only[qzq.f,qzq.j0,if_true,goodName]
 by_cases h1:(s.size:Int) < 1
 ·rw[if_pos h1,if_neg (show ¬ (1≤s.size∧s.size≤30) by omega)]
 by_cases h2:(s.size:Int) > 30
 ·rw[if_neg h1,if_pos h2,if_neg (show ¬ (1≤s.size∧s.size≤30) by omega)]
 rw[if_neg h1,if_neg h2,if_pos (show 1≤s.size∧s.size≤30 by omega),if_pos (by omega),nsdigit_eq,Option.bind_some]
 by_cases h3:ndigC (bt s 0)=true
 ·rw[if_pos h3,if_pos h3]
 ·rw[if_neg h3,if_neg h3]
  exact sName_l0 s hs s.size k 0 (by omega) (by omega) (by omega)
theorem implName_ev (s:ByteArray) (hs:s.size≤9223372036854775807):Ev (fun k=>wv.f k s) (goodName s):=by
 refine⟨s.size + 3,fun k hk=>?_⟩
 obtain⟨k,rfl⟩ : ∃ m,k=m + 1:=⟨k - 1,by omega⟩
 show wv.f (k + 1) s=_
 simp only[wv.f,wv.j0,if_true,goodName]
 by_cases h1:s.size=0
 ·rw[if_pos (list_nil_size.2 h1),if_neg (show ¬ (1≤s.size∧s.size≤30) by omega)]
 by_cases h2:(s.size:Int) > 30
 ·rw[if_neg (fun e=>h1 (list_nil_size.1 e)),if_pos h2,if_neg (show ¬ (1≤s.size∧s.size≤30) by omega)]
 rw[if_neg (fun e=>h1 (list_nil_size.1 e)),if_neg h2,if_pos (show 1≤s.size∧s.size≤30 by omega),if_pos (by omega),nidigit_eq,Option.bind_some]
 by_cases h3:ndigC (bt s 0)=true
 ·rw[if_pos h3,if_pos h3]
 ·rw[if_neg h3,if_neg h3]
  exact iName_l0 s hs s.size k 0 (by omega) (by omega) (by omega)
set_option linter.unusedVariables false
theorem Ev.upA {α:Type} {g:Nat→Option α} {r : α} (h:Ev (fun k=>g (k + 1)) r):Ev g r:=by
 obtain⟨n,h⟩:=h
 refine⟨n + 1,fun k hk=>?_⟩
 obtain⟨k,rfl⟩ : ∃ m,k=m + 1:=⟨k - 1,by omega⟩
 exact h k (by omega)
theorem pow_le62 {n:Nat} (h:n≤62):(2:Int) ^ n≤4611686018427387904:=by
 have h2:(2:Nat) ^ n≤4611686018427387904:=Nat.pow_le_pow_right (show 0 < 2 by decide) h
 have h3:((2 ^ n:Nat):Int)≤((4611686018427387904:Nat):Int):=Int.ofNat_le.2 h2
 rw[Int.natCast_pow] at h3
 exact h3
theorem pow_pos2 (n:Nat):(0:Int) < 2 ^ n:=Int.pow_pos (by decide)
theorem pow2_l0 (n:Nat) (hn:n≤62) (d:Nat):∀ (k j:Nat),j + d=n→d < k→qkv.l0 k (n:Int) (2 ^ j) (j:Int)=some (2 ^ n):=by
 induction d with
 | zero =>
  intro k j hj hk
  obtain⟨k,rfl⟩ : ∃ m,k=m + 1:=⟨k - 1,by omega⟩
  obtain rfl:j=n:=by omega
  rw[qkv.l0,if_neg (by omega)]
 | succ d ih =>
  intro k j hj hk
  obtain⟨k,rfl⟩ : ∃ m,k=m + 1:=⟨k - 1,by omega⟩
  have hp:=pow_le62 (n:=j + 1) (by omega)
  have h0:=pow_pos2 j
  rw[Int.pow_succ] at hp
  have e1:wrap64 ((2:Int) ^ j * 2)=2 ^ (j + 1):=by rw[w64 (by omega) (by omega),Int.pow_succ]
  have e2:wrap64 ((j:Int) + 1)=((j + 1:Nat):Int):=by rw[w64 (by omega) (by omega)];rfl
  rw[qkv.l0,if_pos (by omega),e1,e2]
  exact ih k (j + 1) (by omega) (by omega)
theorem pow2_eq (n:Nat) (hn:n≤62) (k:Nat) (hk:n < k):qkv.f k (n:Int)=some (2 ^ n):=pow2_l0 n hn n k 0 (by omega) hk
def blkOk (n:Int):Prop:=0≤n∧n % 64≤32∧n / 64 < 4294967296∧n / 64 % 2 ^ (32 - n % 64).toNat=0
instance (n:Int):Decidable (blkOk n):=by unfold blkOk;infer_instance
def noTexts (t ty:ByteArray):Bool:=decide (t.size=0) && decide (ty.size=0)
def goodAtom (k n:Int) (t ty:ByteArray):Bool :=
 if k=1 then noTexts t ty && decide (n=0∨n=1)
 else if k=2∨k=5 then noTexts t ty
 else if k=3 then decide (n=0∧ty.size=0) && (decide (t.size≤200) && prt t)
 else if k=4 then decide (n=0) && (goodName ty && (decide (1≤t.size∧t.size≤200) && prt t))
 else if k=6 then noTexts t ty && decide (blkOk n)
 else if k=7 then noTexts t ty && decide (-100000000000≤n∧n≤100000000000)
 else false
theorem nil_list {s:ByteArray} (h:s.size=0):s.toList=([]:List UInt8):=list_nil_size.2 h
theorem not_nil_list {s:ByteArray} (h:¬ s.size=0):¬ s.toList=([]:List UInt8):=fun e=>h (list_nil_size.1 e)
theorem bne_nil (s:ByteArray):(s.toList != ([]:List UInt8)) = !decide (s.size=0):=by
 by_cases h:s.size=0
 ·rw[nil_list h,decide_eq_true h];rfl
 ·rw[bne,beq_eq_false_iff_ne.2 (not_nil_list h),decide_eq_false h]
theorem beq_nil (s:ByteArray):(s.toList == ([]:List UInt8))=decide (s.size=0):=by
 by_cases h:s.size=0
 ·rw[nil_list h,decide_eq_true h];rfl
 ·rw[beq_eq_false_iff_ne.2 (not_nil_list h),decide_eq_false h]
theorem sGood_j1 (k n:Int) (t ty:ByteArray) (ht:t.size≤9223372036854775807) (hty:ty.size≤9223372036854775807) (hn:k=6→okI n) (h3:k≠1) (hA:k≠3→k≠4→t.size=0) (hB:k≠4→ty.size=0) (b:Bool) (hb:b=decide (k=2∨k=5)):Ev (fun f=>qqx.j1 f k b k n t ty) (goodAtom k n t ty):=by
 refine Ev.upA ?_
 simp only[qqx.j1,hb]
 unfold goodAtom
 rw[if_neg h3]
 by_cases c1:k=2∨k=5
 ·simp only[decide_eq_true c1,if_true,if_pos c1,noTexts]
  rw[hA (by omega) (by omega),hB (by omega)]
  exact Ev.now _
 simp only[decide_eq_false c1,Bool.false_eq_true,if_false,if_neg c1]
 by_cases c3:k=3
 ·simp only[if_pos c3]
  by_cases hz:n=0
  ·simp only[if_pos hz,decide_eq_true (show n=0∧ty.size=0 from⟨hz,hB (by omega)⟩),Bool.true_and]
   by_cases hs:t.size≤200
   ·simp only[if_pos (show(t.size:Int)≤200 by omega),decide_eq_true hs,Bool.true_and]
    exact Ev.bind ⟨t.size + 1,fun k hk=>l1Printed_eq t ht k (by omega)⟩ (Ev.now _)
   ·simp only[if_neg (show ¬ (t.size:Int)≤200 by omega),decide_eq_false hs,Bool.false_and]
    exact Ev.now _
  ·simp only[if_neg hz,decide_eq_false (show ¬ (n=0∧ty.size=0) from fun h=>hz h.1),Bool.false_and]
   exact Ev.now _
 simp only[if_neg c3]
 by_cases c4:k=4
 ·simp only[if_pos c4]
  by_cases hz:n=0
  ·simp only[if_pos hz,decide_eq_true hz,Bool.true_and]
   refine Ev.bind (specName_ev ty hty) ?_
   by_cases hg:goodName ty=true
   ·simp only[hg,if_true,Bool.true_and]
    by_cases h1 : 1≤t.size
    ·simp only[if_pos (show(t.size:Int) ≥ 1 by omega)]
     by_cases hs:t.size≤200
     ·simp only[if_pos (show(t.size:Int)≤200 by omega),decide_eq_true (show 1≤t.size∧t.size≤200 from⟨h1,hs⟩),Bool.true_and]
      exact Ev.bind ⟨t.size + 1,fun k hk=>l1Printed_eq t ht k (by omega)⟩ (Ev.now _)
     ·simp only[if_neg (show ¬ (t.size:Int)≤200 by omega),decide_eq_false (show ¬ (1≤t.size∧t.size≤200) from fun h=>hs h.2),Bool.false_and]
      exact Ev.now _
    ·simp only[if_neg (show ¬ (t.size:Int) ≥ 1 by omega),decide_eq_false (show ¬ (1≤t.size∧t.size≤200) from fun h=>h1 h.1),Bool.false_and]
     exact Ev.now _
   ·simp only[eq_false_of_ne_true hg,Bool.false_eq_true,if_false,Bool.false_and]
    exact Ev.now _
  ·simp only[if_neg hz,decide_eq_false hz,Bool.false_and]
   exact Ev.now _
 simp only[if_neg c4]
 have hNT:noTexts t ty=true:=by unfold noTexts;rw[hA c3 c4,hB c4];rfl
 rw[hNT,Bool.true_and,Bool.true_and]
 by_cases c6:k=6
 ·simp only[if_pos c6]
  have hi:=hn c6
  have hi1 : -9223372036854775808≤n:=hi.1
  have hi2:n≤9223372036854775807:=by have:=hi.2;omega
  by_cases h0:n < 0
  ·simp only[if_pos h0,decide_eq_false (show ¬ blkOk n from fun h=>by have:=h.1;omega)]
   exact Ev.now _
  simp only[if_neg h0]
  have e32:Ev (fun f=>qkv.f f 32) 4294967296:=⟨40,fun k hk=>pow2_eq 32 (by omega) k (by omega)⟩
  refine Ev.bind e32 ?_
  have ed:wrap64 (Int.tdiv n 64)=n / 64:=by rw[Int.tdiv_eq_ediv_of_nonneg (by omega),w64 (by omega) (by omega)]
  have em:Int.tmod n 64=n % 64:=Int.tmod_eq_emod_of_nonneg (by omega)
  have e1:wrap64 ((4294967296:Int) - 1)=4294967295:=w64 (by omega) (by omega)
  simp only[ed,em,e1]
  by_cases h1:n / 64 > 4294967295
  ·simp only[if_pos h1,decide_eq_false (show ¬ blkOk n from fun h=>by have:=h.2.2.1;omega)]
   exact Ev.now _
  by_cases h2:n % 64 > 32
  ·simp only[if_neg h1,if_pos h2,decide_eq_false (show ¬ blkOk n from fun h=>by have:=h.2.1;omega)]
   exact Ev.now _
  simp only[if_neg h1,if_neg h2]
  have ew:wrap64 (32 - n % 64)=((32 - n % 64).toNat:Int):=by rw[w64 (by omega) (by omega)];omega
  have hlt:(32 - n % 64).toNat≤32:=by omega
  have eb:Ev (fun f=>qzk.f f k n t ty) (n / 64,2 ^ (32 - n % 64).toNat):=by
   simp only[qzk.f,ed,em,ew]
   exact Ev.bind ⟨40,fun k hk=>pow2_eq _ (by omega) k (by omega)⟩ (Ev.now _)
  refine Ev.bind eb ?_
  have hp:=pow_pos2 (32 - n % 64).toNat
  have emod:Int.tmod (n / 64) (2 ^ (32 - n % 64).toNat)=n / 64 % 2 ^ (32 - n % 64).toNat:=Int.tmod_eq_emod_of_nonneg (by omega)
  simp only[if_neg (show ¬ (2:Int) ^ (32 - n % 64).toNat=0 by omega),emod]
  have:(n / 64 % 2 ^ (32 - n % 64).toNat == 0)=decide (blkOk n):=by
   rw[Bool.eq_iff_iff,beq_iff_eq,decide_eq_true_iff]
   exact⟨fun h=>⟨by omega,by omega,by omega,h⟩,fun h=>h.2.2.2⟩
  rw[this]
  exact Ev.now _
 simp only[if_neg c6]
 by_cases c7:k=7
 ·simp only[if_pos c7]
  by_cases h1:n ≥ -100000000000
  ·simp only[if_pos h1]
   rw[decide_eq_decide.2 (show(n≤100000000000) ↔ (-100000000000≤n∧n≤100000000000) by omega)]
   exact Ev.now _
  ·simp only[if_neg h1]
   rw[decide_eq_false (show ¬ (-100000000000≤n∧n≤100000000000) by omega)]
   exact Ev.now _
 ·simp only[if_neg c7]
  exact Ev.now _
theorem good_bad {k n:Int} {t ty:ByteArray} (h:(k≠3∧k≠4∧t.size≠0)∨(k≠4∧ty.size≠0)):goodAtom k n t ty=false:=by
 unfold goodAtom
 have hN:k≠3→k≠4→noTexts t ty=false:=fun h3 h4=>by
  unfold noTexts
  rcases h with h|h
  ·rw[decide_eq_false h.2.2,Bool.false_and]
  ·rw[decide_eq_false h.2,Bool.and_false]
 by_cases c1:k=1
 ·rw[if_pos c1,hN (by omega) (by omega),Bool.false_and]
 rw[if_neg c1]
 by_cases c2:k=2∨k=5
 ·rw[if_pos c2,hN (by omega) (by omega)]
 rw[if_neg c2]
 by_cases c3:k=3
 ·rw[if_pos c3,decide_eq_false (show ¬ (n=0∧ty.size=0) from fun g=>h.elim (fun h=>h.1 c3) (fun h=>h.2 g.2)),Bool.false_and]
 rw[if_neg c3]
 by_cases c4:k=4
 ·rcases h with h|h
  ·exact absurd c4 h.2.1
  ·exact absurd c4 h.1
 rw[if_neg c4,hN c3 c4,Bool.false_and,Bool.false_and]
 simp
theorem specGoodAtom_ev (k n:Int) (t ty:ByteArray) (ht:t.size≤9223372036854775807) (hty:ty.size≤9223372036854775807) (hn:k=6→okI n):Ev (fun f=>qqx.f f k n t ty) (goodAtom k n t ty):=by
 have hbad:goodAtom k n t ty=false→Ev (fun f=>qqx.j0 f true k n t ty) (goodAtom k n t ty):=fun h=>by
  refine Ev.upA ?_
  simp only[qqx.j0,if_true,h]
  exact Ev.now _
 have hgo:(k≠3→k≠4→t.size=0)→(k≠4→ty.size=0)→Ev (fun f=>qqx.j0 f false k n t ty) (goodAtom k n t ty):=fun hA hB=>by
  refine Ev.upA ?_
  simp only[qqx.j0,Bool.false_eq_true,if_false]
  by_cases c1:k=1
  ·simp only[if_pos c1]
   have hNT:noTexts t ty=true:=by unfold noTexts;rw[hA (by omega) (by omega),hB (by omega)];rfl
   rw[goodAtom,if_pos c1,hNT,Bool.true_and]
   by_cases hz:n=0
   ·simp only[if_pos hz,decide_eq_true (show n=0∨n=1 from .inl hz)];exact Ev.now _
   ·simp only[if_neg hz]
    have:(n == 1)=decide (n=0∨n=1):=by
     rw[Bool.eq_iff_iff,beq_iff_eq,decide_eq_true_iff]
     omega
    rw[this]
    exact Ev.now _
  simp only[if_neg c1]
  by_cases c2:k=2
  ·simp only[if_pos c2]
   refine sGood_j1 k n t ty ht hty hn c1 hA hB _ ?_
   rw[Bool.eq_iff_iff,beq_iff_eq,decide_eq_true_iff];omega
  ·simp only[if_neg c2]
   refine sGood_j1 k n t ty ht hty hn c1 hA hB _ ?_
   rw[Bool.eq_iff_iff,beq_iff_eq,decide_eq_true_iff];omega
 simp only[qqx.f,bne_nil]
 by_cases c3:k=3
 ·simp only[if_pos c3,if_neg (show ¬ k=4 by omega)]
  by_cases hz:ty.size=0
  ·rw[decide_eq_true hz];exact hgo (fun h=>absurd c3 h) (fun _=>hz)
  ·rw[decide_eq_false hz];exact hbad (good_bad (.inr ⟨by omega,hz⟩))
 simp only[if_neg c3]
 by_cases c4:k=4
 ·simp only[if_pos c4]
  exact hgo (fun _ h=>absurd c4 h) (fun h=>absurd c4 h)
 simp only[if_neg c4]
 by_cases hz:t.size=0
 ·simp only[if_pos (nil_list hz)]
  by_cases hz2:ty.size=0
  ·rw[decide_eq_true hz2];exact hgo (fun _ _=>hz) (fun _=>hz2)
  ·rw[decide_eq_false hz2];exact hbad (good_bad (.inr ⟨c4,hz2⟩))
 ·simp only[if_neg (not_nil_list hz)]
  exact hbad (good_bad (.inl ⟨c3,c4,hz⟩))
theorem shl_fin:∀ e:Fin 33,shl .i64 1 ((e.val:Nat):Int)=2 ^ e.val:=by decide +kernel
theorem iGood_j1 (k n:Int) (t ty:ByteArray) (ht:t.size≤9223372036854775807) (hty:ty.size≤9223372036854775807) (hn:k=6→okI n) (h3:k≠1) (b:Bool) (hb:b=decide (k=2∨k=5)):Ev (fun f=>wz.j1 f (noTexts t ty) k b k n t ty) (goodAtom k n t ty):=by
 refine Ev.upA ?_
 simp only[wz.j1,hb]
 unfold goodAtom
 rw[if_neg h3]
 by_cases c1:k=2∨k=5
 ·simp only[decide_eq_true c1,if_true,if_pos c1]
  exact Ev.now _
 simp only[decide_eq_false c1,Bool.false_eq_true,if_false,if_neg c1]
 by_cases c3:k=3
 ·simp only[if_pos c3]
  by_cases hz:n=0
  ·simp only[if_pos hz]
   by_cases hz2:ty.size=0
   ·simp only[if_pos (nil_list hz2),decide_eq_true (show n=0∧ty.size=0 from⟨hz,hz2⟩),Bool.true_and]
    refine Ev.bind ⟨t.size + 2,fun k hk=>yprinted_eq t 0 200 ht k (by omega)⟩ ?_
    rw[decide_eq_true (show(0:Int)≤(t.size:Int) by omega),Bool.true_and,decide_eq_decide.2 (show((t.size:Int)≤200) ↔ t.size≤200 by omega)]
    exact Ev.now _
   ·simp only[if_neg (not_nil_list hz2),decide_eq_false (show ¬ (n=0∧ty.size=0) from fun h=>hz2 h.2),Bool.false_and]
    exact Ev.now _
  ·simp only[if_neg hz,decide_eq_false (show ¬ (n=0∧ty.size=0) from fun h=>hz h.1),Bool.false_and]
   exact Ev.now _
 simp only[if_neg c3]
 by_cases c4:k=4
 ·simp only[if_pos c4]
  by_cases hz:n=0
  ·simp only[if_pos hz,decide_eq_true hz,Bool.true_and]
   refine Ev.bind (implName_ev ty hty) ?_
   by_cases hg:goodName ty=true
   ·simp only[hg,if_true,Bool.true_and]
    refine Ev.bind ⟨t.size + 2,fun k hk=>yprinted_eq t 1 200 ht k (by omega)⟩ ?_
    rw[← Bool.decide_and,decide_eq_decide.2 (show((1:Int)≤(t.size:Int)∧(t.size:Int)≤200) ↔ (1≤t.size∧t.size≤200) by omega)]
    exact Ev.now _
   ·simp only[eq_false_of_ne_true hg,Bool.false_eq_true,if_false,Bool.false_and]
    exact Ev.now _
  ·simp only[if_neg hz,decide_eq_false hz,Bool.false_and]
   exact Ev.now _
 simp only[if_neg c4]
 rcases hNT:noTexts t ty with _|_
 ·simp only[Bool.false_eq_true,if_false,Bool.false_and]
  rw[show(if k=6 then some false else if k=7 then some false else some false)=some false by split <;> (try split) <;> rfl,show(if k=6 then false else if k=7 then false else false)=false by split <;> (try split) <;> rfl]
  exact Ev.now _
 simp only[if_true,Bool.true_and]
 by_cases c6:k=6
 ·simp only[if_pos c6]
  have hi:=hn c6
  have hi1 : -9223372036854775808≤n:=hi.1
  have hi2:n≤9223372036854775807:=by have:=hi.2;omega
  by_cases h0:n < 0
  ·simp only[if_pos h0,decide_eq_false (show ¬ blkOk n from fun h=>by have:=h.1;omega)]
   exact Ev.now _
  simp only[if_neg h0]
  have ed:wrap64 (Int.tdiv n 64)=n / 64:=by rw[Int.tdiv_eq_ediv_of_nonneg (by omega),w64 (by omega) (by omega)]
  have em:Int.tmod n 64=n % 64:=Int.tmod_eq_emod_of_nonneg (by omega)
  simp only[ed,em]
  by_cases h2:n % 64≤32
  case neg =>
   simp only[if_neg h2,decide_eq_false (show ¬ blkOk n from fun h=>h2 h.2.1)]
   exact Ev.now _
  by_cases h1:n / 64 < 4294967296
  case neg =>
   simp only[if_pos h2,if_neg h1,decide_eq_false (show ¬ blkOk n from fun h=>h1 h.2.2.1)]
   exact Ev.now _
  have ew:wrap64 (32 - n % 64)=((32 - n % 64).toNat:Int):=by rw[w64 (by omega) (by omega)];omega
  have hlt:(32 - n % 64).toNat < 33:=by omega
  have esh:=shl_fin ⟨(32 - n % 64).toNat,hlt⟩
  have hp:=pow_pos2 (32 - n % 64).toNat
  have emod:Int.tmod (n / 64) (2 ^ (32 - n % 64).toNat)=n / 64 % 2 ^ (32 - n % 64).toNat:=Int.tmod_eq_emod_of_nonneg (by omega)
  simp only[if_pos h2,if_pos h1,ew,if_pos (Int.natCast_nonneg _),esh,if_neg (show ¬ (2:Int) ^ (32 - n % 64).toNat=0 by omega),emod]
  have:(n / 64 % 2 ^ (32 - n % 64).toNat == 0)=decide (blkOk n):=by
   rw[Bool.eq_iff_iff,beq_iff_eq,decide_eq_true_iff]
   exact⟨fun h=>⟨by omega,by omega,by omega,h⟩,fun h=>h.2.2.2⟩
  rw[this]
  exact Ev.now _
 simp only[if_neg c6]
 by_cases c7:k=7
 ·simp only[if_pos c7]
  by_cases h1:n ≥ -100000000000
  ·simp only[if_pos h1]
   rw[decide_eq_decide.2 (show(n≤100000000000) ↔ (-100000000000≤n∧n≤100000000000) by omega)]
   exact Ev.now _
  ·simp only[if_neg h1]
   rw[decide_eq_false (show ¬ (-100000000000≤n∧n≤100000000000) by omega)]
   exact Ev.now _
 ·simp only[if_neg c7]
  exact Ev.now _
theorem implGoodAtom_ev (k n:Int) (t ty:ByteArray) (ht:t.size≤9223372036854775807) (hty:ty.size≤9223372036854775807) (hn:k=6→okI n):Ev (fun f=>wz.f f k n t ty) (goodAtom k n t ty):=by
 have hj:Ev (fun f=>wz.j0 f (noTexts t ty) k n t ty) (goodAtom k n t ty):=by
  refine Ev.upA ?_
  simp only[wz.j0]
  by_cases c1:k=1
  ·simp only[if_pos c1]
   rw[goodAtom,if_pos c1]
   rcases hNT:noTexts t ty with _|_
   ·simp only[Bool.false_eq_true,if_false,Bool.false_and];exact Ev.now _
   simp only[if_true,Bool.true_and]
   by_cases hz:n=0
   ·simp only[if_pos hz,decide_eq_true (show n=0∨n=1 from .inl hz)];exact Ev.now _
   ·simp only[if_neg hz]
    have:(n == 1)=decide (n=0∨n=1):=by
     rw[Bool.eq_iff_iff,beq_iff_eq,decide_eq_true_iff]
     omega
    rw[this]
    exact Ev.now _
  simp only[if_neg c1]
  by_cases c2:k=2
  ·simp only[if_pos c2]
   refine iGood_j1 k n t ty ht hty hn c1 _ ?_
   rw[Bool.eq_iff_iff,beq_iff_eq,decide_eq_true_iff];omega
  ·simp only[if_neg c2]
   refine iGood_j1 k n t ty ht hty hn c1 _ ?_
   rw[Bool.eq_iff_iff,beq_iff_eq,decide_eq_true_iff];omega
 simp only[wz.f,beq_nil]
 by_cases hz:t.size=0
 ·simp only[if_pos (nil_list hz)]
  rw[show decide (ty.size=0)=noTexts t ty by unfold noTexts;rw[decide_eq_true hz,Bool.true_and]]
  exact hj
 ·simp only[if_neg (not_nil_list hz)]
  rw[show false=noTexts t ty by unfold noTexts;rw[decide_eq_false hz,Bool.false_and]]
  exact hj
open Go.RowKit Go.Proofs.Ytccbjchlcelkgaa.Read Go.Proofs.YtccbjchlcelkgaaW.PrintWords Go.Lib
set_option linter.unusedSimpArgs false
theorem Ev.upZ {α:Type} {g:Nat→Option α} {r : α} (h:Ev (fun k=>g (k + 1)) r):Ev g r:=by
 obtain⟨n,h⟩:=h
 refine⟨n + 1,fun k hk=>?_⟩
 obtain⟨k,rfl⟩ : ∃ m,k=m + 1:=⟨k - 1,by omega⟩
 exact h k (by omega)
def okAt (x:AtmT):Prop:=x.f2.size≤1000∧x.f3.size≤1000∧okI x.f1
def goodA (x:AtmT):Bool:=goodAtom x.f0 x.f1 x.f2 x.f3
theorem implGoodA_ev {x:AtmT} (h:okAt x):Ev (fun f=>wz.f f x.f0 x.f1 x.f2 x.f3) (goodA x):=implGoodAtom_ev _ _ _ _ (by have:=h.1;omega) (by have:=h.2.1;omega) (fun _=>h.2.2)
theorem specGoodA_ev {x:AtmT} (h:okAt x):Ev (fun f=>qqx.f f x.f0 x.f1 x.f2 x.f3) (goodA x):=specGoodAtom_ev _ _ _ _ (by have:=h.1;omega) (by have:=h.2.1;omega) (fun _=>h.2.2)
theorem cmpNum_eq (a b:Int):qzw.f a b=some (cmpI a b):=by
 unfold qzw.f cmpI
 split
 ·rfl
 ·split <;> rfl
theorem specCmp_ev {x y:AtmT} (hx:okAt x) (hy:okAt y):Ev (fun k=>qzv.f k x.f0 x.f1 x.f2 x.f3 y.f0 y.f1 y.f2 y.f3) (cmpA x y):=by
 obtain⟨a1,a2,_⟩:=hx
 obtain⟨b1,b2,_⟩:=hy
 have t3:=cmpT_ev x.f3 y.f3 (by omega) (by omega)
 have t2:=cmpT_ev x.f2 y.f2 (by omega) (by omega)
 simp only[qzv.f,cmpNum_eq,Option.bind_some]
 unfold cmpA lexO
 by_cases h0:cmpI x.f0 y.f0=0
 ·simp only[if_pos h0]
  by_cases h1:cmpI x.f1 y.f1=0
  ·simp only[if_pos h1]
   refine Ev.bind t3 ?_
   by_cases h2:cmpT x.f3 y.f3=0
   ·simp only[if_pos h2]
    exact Ev.bind t2 (Ev.now _)
   ·simp only[if_neg h2];exact Ev.now _
  ·simp only[if_neg h1];exact Ev.now _
 ·simp only[if_neg h0];exact Ev.now _
theorem rdA_nat {l:List AtmT} {i:Nat} (h:i < l.length):vz l (i:Int)=l[i]:=by simp[vz,List.getD_eq_getElem?_getD,List.getElem?_eq_getElem h]
def Rises (l:List AtmT):Prop:=l.Pairwise (fun a b=>cmpA a b < 0)
theorem cmpA_trans {x y z:AtmT} (h1:cmpA x y < 0) (h2:cmpA y z < 0):cmpA x z < 0:=(G3_A x y z).2.2 h1 h2
theorem cmpA_le_lt {x y z:AtmT} (h1:cmpA x y≤0) (h2:cmpA y z < 0):cmpA x z < 0:=by
 by_cases h:cmpA x y=0
 ·rw[cmpA_zero h];exact h2
 ·exact cmpA_trans (by omega) h2
theorem cmpA_le_le {x y z:AtmT} (h1:cmpA x y≤0) (h2:cmpA y z≤0):cmpA x z≤0:=by
 by_cases h:cmpA y z=0
 ·rw[← cmpA_zero h];exact h1
 ·exact Int.le_of_lt (cmpA_le_lt h1 (by omega))
theorem rises_same {A B:List AtmT} (hA:Rises A) (hB:Rises B) (h:∀ x,x ∈ A ↔ x ∈ B):A=B:=by
 have nd:∀ {l:List AtmT},Rises l→l.Nodup:=fun hl=>hl.imp (fun {a b} hab e=>by rw[e,cmpA_refl] at hab;omega)
 have hp:A.Perm B:=(List.perm_ext_iff_of_nodup (nd hA) (nd hB)).2 h
 refine List.Perm.eq_of_pairwise (le:=fun a b=>cmpA a b < 0) ?_ hA hB hp
 intro a b _ _ h1 h2
 have:=cmpA_swap a b
 omega
theorem sortA_mem (l:List AtmT) (x:AtmT):x ∈ sortA l ↔ x ∈ l:=List.mem_mergeSort
theorem sortA_sorted (l:List AtmT):(sortA l).Pairwise (fun a b=>cmpA a b≤0):=by
 have h:=List.pairwise_mergeSort (le:=fun x y=>!(ltOf cmpA) y x) (fun a b c h1 h2=>by
  simp only[ltOf,Bool.not_eq_true',decide_eq_false_iff_not] at *
  have s1:=cmpA_swap a b
  have s2:=cmpA_swap b c
  have s3:=cmpA_swap a c
  have:=cmpA_le_le (x:=a) (y:=b) (z:=c) (by omega) (by omega)
  omega) (fun a b=>by
  simp only[ltOf]
  have s1:=cmpA_swap a b
  by_cases h:cmpA a b < 0
  ·have:¬ cmpA b a < 0:=by omega
   simp[this]
  ·simp[h]) l
 refine h.imp (fun {a b} hab=>?_)
 simp only[ltOf,Bool.not_eq_true',decide_eq_false_iff_not] at hab
 have:=cmpA_swap a b
 omega
theorem compact_facts (l:List AtmT) (h:l.Pairwise (fun a b=>cmpA a b≤0)) (m:Nat):m≤l.length→Rises (compactUpTo l.toArray m)∧(∀ x ∈ compactUpTo l.toArray m,∃ i,∃ hi:i < l.length,i < m∧x=l[i])∧∀ i (hi:i < l.length),i < m→l[i] ∈ compactUpTo l.toArray m:=by
 have hg:∀ i (hi:i < l.length),l.toArray[i]! = l[i]:=fun i hi=>by simp[hi]
 induction m with
 | zero=>intro _;exact⟨List.Pairwise.nil,fun x hx=>absurd hx List.not_mem_nil,fun i _ h=>absurd h (Nat.not_lt_zero _)⟩
 | succ m ih =>
  intro hm
  obtain⟨h1,h2,h3⟩:=ih (by omega)
  have hmm:m < l.length:=by omega
  rw[compactUpTo_succ]
  have hle:=List.pairwise_iff_getElem.1 h
  by_cases hk:keeps l.toArray m=true
  ·rw[if_pos hk,hg m hmm]
   refine⟨List.pairwise_append.2 ⟨h1,List.pairwise_singleton _ _,fun a ha b hb=>?_⟩,fun x hx=>?_,fun i hi him=>?_⟩
   ·obtain rfl:=List.mem_singleton.1 hb
    obtain⟨i,hi,him,rfl⟩:=h2 a ha
    have hne:l[m]≠l[m - 1]:=by
     simp only[keeps,decide_eq_true_eq] at hk
     rw[hg m hmm,hg (m - 1) (by omega)] at hk
     rcases hk with hk|hk
     ·omega
     ·exact hk
    have hlast:cmpA l[m - 1] l[m] < 0:=by
     have:=hle (m - 1) m (by omega) hmm (by omega)
     by_cases e:cmpA l[m - 1] l[m]=0
     ·exact absurd (cmpA_zero e).symm hne
     ·omega
    by_cases e:i=m - 1
    ·subst e;exact hlast
    ·exact cmpA_le_lt (hle i (m - 1) hi (by omega) (by omega)) hlast
   ·rcases List.mem_append.1 hx with hx|hx
    ·obtain⟨i,hi,him,e⟩:=h2 x hx
     exact⟨i,hi,by omega,e⟩
    ·exact⟨m,hmm,by omega,List.mem_singleton.1 hx⟩
   ·by_cases e:i=m
    ·subst e;exact List.mem_append_right _ (List.mem_singleton.2 rfl)
    ·exact List.mem_append_left _ (h3 i hi (by omega))
  ·rw[if_neg hk,List.append_nil]
   refine⟨h1,fun x hx=>?_,fun i hi him=>?_⟩
   ·obtain⟨i,hi,him,e⟩:=h2 x hx
    exact⟨i,hi,by omega,e⟩
   ·by_cases e:i=m
    ·subst e
     simp only[keeps,decide_eq_true_eq] at hk
     have hi0:¬ i=0:=fun h0=>hk (.inl h0)
     have he:l.toArray[i]! = l.toArray[i - 1]!:=Classical.byContradiction (fun hne=>hk (.inr hne))
     rw[hg i hi,hg (i - 1) (by omega)] at he
     rw[he]
     exact h3 (i - 1) (by omega) (by omega)
    ·exact h3 i hi (by omega)
def setL (l:List AtmT):List AtmT:=compactA (sortA l)
theorem setL_rises (l:List AtmT):Rises (setL l):=(compact_facts (sortA l) (sortA_sorted l) _ (Nat.le_refl _)).1
theorem setL_mem (l:List AtmT) (x:AtmT):x ∈ setL l ↔ x ∈ l:=by
 obtain⟨_,h2,h3⟩:=compact_facts (sortA l) (sortA_sorted l) _ (Nat.le_refl _)
 rw[← sortA_mem l x]
 constructor
 ·intro hx
  obtain⟨i,hi,_,rfl⟩:=h2 x hx
  exact List.getElem_mem hi
 ·intro hx
  obtain⟨i,hi,rfl⟩:=List.getElem_of_mem hx
  exact h3 i hi hi
theorem setL_same {A B:List AtmT} (h:∀ x,x ∈ A ↔ x ∈ B):setL A=setL B :=
 rises_same (setL_rises A) (setL_rises B) (fun x=>by rw[setL_mem,setL_mem];exact h x)
abbrev ValT:=Int × Int × Int × ByteArray × ByteArray × List AtmT × List ByteArray
def noVal:ValT:=(0,0,0,⟨#[]⟩,⟨#[]⟩,[],[])
def setV (s:List AtmT):ValT:=(2,0,0,⟨#[]⟩,⟨#[]⟩,s,[])
def allGood (l:List AtmT):Prop:=l.length≤1000∧∀ x ∈ l,goodA x=true
noncomputable def setR (l:List AtmT):ValT:=by
 classical
 exact if allGood l then(if (setL l).length≤50 then setV (setL l) else noVal) else noVal
theorem setR_good {l:List AtmT} (h:allGood l):setR l=if (setL l).length≤50 then setV (setL l) else noVal:=by unfold setR;rw[if_pos h]
theorem setR_bad {l:List AtmT} (h:¬ allGood l):setR l=noVal:=by unfold setR;rw[if_neg h]
theorem hasBad_ev (l:List AtmT) (hok:∀ x ∈ l,okAt x):Ev (fun k=>has_impl_SetOf_1.f k l) (l.any fun x=>!goodA x):=by
 unfold has_impl_SetOf_1.f
 induction l with
 | nil=>exact Ev.now _
 | cons x l ih =>
  simp only[anyO,List.any_cons]
  refine Ev.bind (a:=!goodA x) ?_ ?_
  ·simp only[xq.f]
   exact Ev.bind (implGoodA_ev (hok x List.mem_cons_self)) (Ev.now _)
  ·by_cases h:goodA x=true
   ·rw[h]
    simp only[Bool.not_true,Bool.false_eq_true,if_false,Bool.false_or]
    exact ih (fun y hy=>hok y (List.mem_cons_of_mem _ hy))
   ·rw[jq9.2 h]
    simp only[Bool.not_false,if_true,Bool.true_or]
    exact Ev.now _
theorem implSetOf_ev (l:List AtmT) (hok:∀ x ∈ l,okAt x):Ev (fun k=>wx.f k l) (setR l):=by
 simp only[wx.f]
 by_cases hl:(l.length:Int) > 1000
 ·simp only[if_pos hl]
  rw[setR_bad (fun h=>by have:=h.1;omega)]
  refine Ev.upZ ?_
  simp only[wx.j0,if_true]
  exact Ev.now _
 simp only[if_neg hl]
 refine Ev.bind (hasBad_ev l hok) ?_
 by_cases hg:∀ x ∈ l,goodA x=true
 ·have ha:(l.any fun x=>!goodA x)=false:=by
   rw[List.any_eq_false]
   intro x hx
   rw[hg x hx];decide
  rw[ha,setR_good ⟨by omega,hg⟩]
  refine Ev.upZ ?_
  have hs:(sortA l).length=l.length:=List.length_mergeSort _
  simp only[wx.j0,if_neg (show ¬ (false=true) by decide),vx.f,sort_impl_ycmpAtom.f,wq.f,if_pos (show l.length < 2932031007402 by omega),if_pos (show l.length < 4611686018427387904 by omega),Option.bind_some]
  show Ev (fun k=>if ((setL l).length:Int) > 50 then some noVal else some (setV (setL l))) _
  by_cases h50:(setL l).length≤50
  ·simp only[if_pos h50,if_neg (show ¬ ((setL l).length:Int) > 50 by omega)];exact Ev.now _
  ·simp only[if_neg h50,if_pos (show((setL l).length:Int) > 50 by omega)];exact Ev.now _
 ·have ha:(l.any fun x=>!goodA x)=true:=by
   rw[List.any_eq_true]
   obtain⟨x,hx⟩:=Classical.not_forall.1 hg
   obtain⟨hx,hb⟩:=Classical.not_imp.1 hx
   exact⟨x,hx,by simp[hb]⟩
  rw[ha,setR_bad (fun h=>hg h.2)]
  refine Ev.upZ ?_
  simp only[wx.j0,if_true]
  exact Ev.now _
theorem set_midA (a b:List AtmT) (x y:AtmT) (i:Nat) (h:a.length=i):(a ++ x :: b).set i y=a ++ y :: b:=by
 subst h
 simp
theorem take_snocA {out:List AtmT} {j:Nat} (h:j < out.length):out.take (j + 1)=out.take j ++ [out[j]]:=List.take_succ_eq_append_getElem h
theorem shift_l2 (out items:List AtmT) (a:AtmT) (i k:Nat) (hk:k≤out.length) (hn:out.length≤100000) (R:List AtmT)
  (hend:Ev (fun f=>qkx.l0 f (out.take k ++ a :: out.drop k) items (items.length:Int) (wrap64 ((i:Int) + 1))) R) (d:Nat):∀ (j:Nat) (c:AtmT),j=k + d→j≤out.length →
  Ev (fun f=>qkx.l2 f (out.take j ++ c :: out.drop j) (k:Int) (j:Int) items (items.length:Int) (i:Int) a.f0 a.f1 a.f2 a.f3) R:=by
 induction d with
 | zero =>
  intro j c hj hjl
  obtain rfl:j=k:=by omega
  have hz:(out.take j ++ c :: out.drop j).length=out.length + 1:=by simp;omega
  refine Ev.upZ ?_
  simp only[qkx.l2,if_neg (Int.lt_irrefl _),hz,if_pos (Int.natCast_nonneg j),if_pos (show(j:Int) < ((out.length + 1:Nat):Int) by omega),Int.toNat_natCast,set_midA _ _ _ _ j (show(out.take j).length=j by simp;omega)]
  exact hend
 | succ d ih =>
  intro j c hj hjl
  obtain⟨q,rfl⟩ : ∃ q,j=q + 1:=⟨j - 1,by omega⟩
  have hz:(out.take (q + 1) ++ c :: out.drop (q + 1)).length=out.length + 1:=by simp;omega
  have e1:wrap64 (((q + 1:Nat):Int) - 1)=(q:Int):=by rw[w64 (by omega) (by omega)];omega
  have hrd:vz (out.take (q + 1) ++ c :: out.drop (q + 1)) (q:Int)=out[q]:=by
   rw[rdA_nat (by rw[hz];omega),List.getElem_append_left (by simp;omega),List.getElem_take]
  have hi:=ih q out[q] (by omega) (by omega)
  rw[List.drop_eq_getElem_cons (show q < out.length by omega)] at hi
  refine Ev.upZ ?_
  simp only[qkx.l2,if_pos (show((q + 1:Nat):Int) > (k:Int) by omega),e1,if_pos (Int.natCast_nonneg q),hz,if_pos (show(q:Int) < ((out.length + 1:Nat):Int) by omega),if_pos (Int.natCast_nonneg (q + 1)),if_pos (show((q + 1:Nat):Int) < ((out.length + 1:Nat):Int) by omega),Int.toNat_natCast,hrd,
   set_midA _ _ _ _ (q + 1) (show(out.take (q + 1)).length=q + 1 by simp;omega)]
  rw[take_snocA (show q < out.length by omega),List.append_assoc]
  exact hi
theorem laid_rises {out:List AtmT} {a:AtmT} {k:Nat} (hr:Rises out) (hk:k≤out.length) (hhi:∀ j (hj:j < out.length),k≤j→0 < cmpA out[j] a) (hlo:∀ j (hj:j < out.length),j < k→cmpA out[j] a < 0):Rises (out.take k ++ a :: out.drop k):=by
 refine List.pairwise_append.2 ⟨hr.sublist (List.take_sublist _ _),List.pairwise_cons.2 ⟨fun x hx=>?_,hr.sublist (List.drop_sublist _ _)⟩,fun x hx y hy=>?_⟩
 ·obtain⟨j,hj,rfl⟩:=List.getElem_of_mem hx
  rw[List.getElem_drop]
  rw[jq3] at hj
  have hkj:k + j < out.length:=by omega
  have:=hhi (k + j) hkj (by omega)
  have:=cmpA_swap (out[k + j]'hkj) a
  omega
 ·obtain⟨j,hj,rfl⟩:=List.getElem_of_mem hx
  rw[jq4] at hj
  rw[List.getElem_take]
  have hxa:=hlo j (by omega) (by omega)
  rcases List.mem_cons.1 hy with rfl|hy
  ·exact hxa
  ·obtain⟨q,hq,rfl⟩:=List.getElem_of_mem hy
   rw[jq3] at hq
   rw[List.getElem_drop]
   have hkq:k + q < out.length:=by omega
   have:=hhi (k + q) hkq (by omega)
   have s:=cmpA_swap (out[k + q]'hkq) a
   exact cmpA_trans hxa (by omega)
theorem laid_mem {out:List AtmT} {a:AtmT} {k:Nat} (x:AtmT):x ∈ out.take k ++ a :: out.drop k ↔ x ∈ out∨x=a:=by
 have h:x ∈ out ↔ x ∈ out.take k∨x ∈ out.drop k:=by rw[← List.mem_append,List.take_append_drop]
 rw[h,List.mem_append,List.mem_cons]
 constructor
 ·rintro (h|h|h)
  ·exact .inl (.inl h)
  ·exact .inr h
  ·exact .inl (.inr h)
 ·rintro ((h|h)|h)
  ·exact .inl h
  ·exact .inr (.inr h)
  ·exact .inr (.inl h)
theorem put_j3 (out items:List AtmT) (a:AtmT) (i k:Nat) (hk:k≤out.length) (hn:out.length≤100000) (R:List AtmT)
  (hend:Ev (fun f=>qkx.l0 f (out.take k ++ a :: out.drop k) items (items.length:Int) (wrap64 ((i:Int) + 1))) R):Ev (fun f=>qkx.j3 f out (k:Int) items (items.length:Int) (i:Int) false a.f0 a.f1 a.f2 a.f3) R:=by
 have hs:=shift_l2 out items a i k hk hn R hend (out.length - k) out.length a (by omega) (Nat.le_refl _)
 rw[List.take_length,List.drop_length] at hs
 have e1:wrap64 (((out ++ [(⟨a.f0,a.f1,a.f2,a.f3⟩ : AtmT)]).length:Int) - 1)=(out.length:Int):=by
  rw[List.length_append,List.length_singleton,w64 (by omega) (by omega)];omega
 refine Ev.upZ ?_
 simp only[qkx.j3,if_neg (show ¬ (false=true) by decide),if_pos (show out.length < 2932031007402 by omega),Option.bind_some,e1]
 exact hs
theorem ins_l1 (out items:List AtmT) (a:AtmT) (i:Nat) (hr:Rises out) (hn:out.length≤100000) (ho:∀ x ∈ out,okAt x) (ha:okAt a) (k:Nat):k≤out.length→(∀ j (hj:j < out.length),k≤j→0 < cmpA out[j] a) →
  ∃ r,Rises r∧(∀ x,x ∈ r ↔ x ∈ out∨x=a)∧r.length≤out.length + 1∧∀ R,Ev (fun f=>qkx.l0 f r items (items.length:Int) (wrap64 ((i:Int) + 1))) R→Ev (fun f=>qkx.l1 f out (k:Int) items (items.length:Int) (i:Int) a.f0 a.f1 a.f2 a.f3) R:=by
 induction k with
 | zero =>
  intro hk hhi
  refine⟨out.take 0 ++ a :: out.drop 0,laid_rises hr (Nat.zero_le _) hhi (fun j hj h=>absurd h (Nat.not_lt_zero _)),fun x=>laid_mem x,by simp,fun R hR=>?_⟩
  have hp:=put_j3 out items a i 0 (Nat.zero_le _) hn R hR
  refine Ev.upZ ?_
  simp only[qkx.l1,if_neg (show ¬ ((0:Nat):Int) > 0 by decide)]
  refine Ev.upZ ?_
  simp only[qkx.j2,if_neg (show ¬ ((0:Nat):Int) > 0 by decide)]
  exact hp
 | succ k ih =>
  intro hk hhi
  have hlt:k < out.length:=by omega
  have e1:wrap64 (((k + 1:Nat):Int) - 1)=(k:Int):=by rw[w64 (by omega) (by omega)];omega
  have hc:=specCmp_ev (ho _ (List.getElem_mem hlt)) ha
  by_cases h1:cmpA out[k] a > 0
  ·obtain⟨r,r1,r2,r3,r4⟩:=ih (by omega) (fun j hj hjk=>by
    by_cases e:j=k
    ·subst e;exact h1
    ·exact hhi j hj (by omega))
   refine⟨r,r1,r2,r3,fun R hR=>?_⟩
   refine Ev.upZ ?_
   simp only[qkx.l1,if_pos (show((k + 1:Nat):Int) > 0 by omega),e1,if_pos (Int.natCast_nonneg k),if_pos (show(k:Int) < (out.length:Int) by omega),rdA_nat hlt]
   refine Ev.bind hc ?_
   simp only[if_pos h1]
   exact r4 R hR
  ·by_cases h0:cmpA out[k] a=0
   ·have hea:out[k]=a:=cmpA_zero h0
    refine⟨out,hr,fun x=>⟨fun h=>.inl h,fun h=>h.elim id (fun e=>by rw[e,← hea];exact List.getElem_mem hlt)⟩,by omega,fun R hR=>?_⟩
    refine Ev.upZ ?_
    simp only[qkx.l1,if_pos (show((k + 1:Nat):Int) > 0 by omega),e1,if_pos (Int.natCast_nonneg k),if_pos (show(k:Int) < (out.length:Int) by omega),rdA_nat hlt]
    refine Ev.bind hc ?_
    simp only[if_neg h1]
    refine Ev.upZ ?_
    simp only[qkx.j2,if_pos (show((k + 1:Nat):Int) > 0 by omega),e1,if_pos (Int.natCast_nonneg k),if_pos (show(k:Int) < (out.length:Int) by omega),rdA_nat hlt]
    refine Ev.bind hc ?_
    rw[h0]
    refine Ev.upZ ?_
    simp only[qkx.j3,beq_self_eq_true,if_true]
    exact hR
   ·have hneg:cmpA out[k] a < 0:=by omega
    have hlo:∀ j (hj:j < out.length),j < k + 1→cmpA out[j] a < 0:=by
     intro j hj hjk
     by_cases e:j=k
     ·subst e;exact hneg
     ·exact cmpA_trans (List.pairwise_iff_getElem.1 hr j k hj hlt (by omega)) hneg
    refine⟨out.take (k + 1) ++ a :: out.drop (k + 1),laid_rises hr hk hhi hlo,fun x=>laid_mem x,by simp;omega,fun R hR=>?_⟩
    have hp:=put_j3 out items a i (k + 1) hk hn R hR
    refine Ev.upZ ?_
    simp only[qkx.l1,if_pos (show((k + 1:Nat):Int) > 0 by omega),e1,if_pos (Int.natCast_nonneg k),if_pos (show(k:Int) < (out.length:Int) by omega),rdA_nat hlt]
    refine Ev.bind hc ?_
    simp only[if_neg h1]
    refine Ev.upZ ?_
    simp only[qkx.j2,if_pos (show((k + 1:Nat):Int) > 0 by omega),e1,if_pos (Int.natCast_nonneg k),if_pos (show(k:Int) < (out.length:Int) by omega),rdA_nat hlt]
    refine Ev.bind hc ?_
    rw[show(cmpA out[k] a == 0)=false from jq9.2 (fun h=>h0 (eq_of_beq h))]
    exact hp
theorem sorted_l0 (items:List AtmT) (hn:items.length≤1000) (hok:∀ x ∈ items,okAt x) (d:Nat):∀ (i:Nat) (out:List AtmT),i + d=items.length→Rises out→out.length≤i→(∀ x,x ∈ out ↔ x ∈ items.take i) →
  ∃ r,Rises r∧(∀ x,x ∈ r ↔ x ∈ items)∧Ev (fun f=>qkx.l0 f out items (items.length:Int) (i:Int)) r:=by
 induction d with
 | zero =>
  intro i out hi hr hl hm
  obtain rfl:i=items.length:=by omega
  rw[List.take_length] at hm
  refine⟨out,hr,hm,Ev.upZ ?_⟩
  simp only[qkx.l0,if_neg (Int.lt_irrefl _)]
  exact Ev.now _
 | succ d ih =>
  intro i out hi hr hl hm
  have hlt:i < items.length:=by omega
  have e2:wrap64 ((i:Int) + 1)=((i + 1:Nat):Int):=by rw[w64 (by omega) (by omega)];rfl
  have ho:∀ x ∈ out,okAt x:=fun x hx=>hok x (List.mem_of_mem_take ((hm x).1 hx))
  obtain⟨r,r1,r2,r3,r4⟩:=ins_l1 out items items[i] i hr (by omega) ho (hok _ (List.getElem_mem hlt)) out.length (Nat.le_refl _) (fun j hj h=>by omega)
  obtain⟨s,s1,s2,s3⟩:=ih (i + 1) r (by omega) r1 (by omega) (fun x=>by rw[r2,hm,take_snocA hlt,List.mem_append,List.mem_singleton])
  refine⟨s,s1,s2,Ev.upZ ?_⟩
  simp only[qkx.l0,if_pos (show(i:Int) < (items.length:Int) by omega),if_pos (Int.natCast_nonneg i),rdA_nat hlt]
  rw[← e2] at s3
  exact r4 s s3
theorem sorted_ev (items:List AtmT) (hn:items.length≤1000) (hok:∀ x ∈ items,okAt x):Ev (fun f=>qkx.f f items) (setL items):=by
 obtain⟨r,h1,h2,h3⟩:=sorted_l0 items hn hok items.length 0 [] (by omega) List.Pairwise.nil (Nat.le_refl _) (fun x=>by simp)
 have:r=setL items:=rises_same h1 (setL_rises items) (fun x=>by rw[h2,setL_mem])
 rw[← this]
 exact h3
theorem specSet_l0 (l:List AtmT) (hn:l.length≤1000) (hok:∀ x ∈ l,okAt x) (d:Nat):∀ i:Nat,i + d=l.length→(∀ x ∈ l.take i,goodA x=true)→Ev (fun k=>qzj.l0 k l l (l.length:Int) (i:Int)) (setR l):=by
 induction d with
 | zero =>
  intro i hi hg
  obtain rfl:i=l.length:=by omega
  rw[List.take_length] at hg
  rw[setR_good ⟨hn,hg⟩]
  refine Ev.upZ ?_
  simp only[qzj.l0,if_neg (Int.lt_irrefl _)]
  refine Ev.bind (sorted_ev l hn hok) ?_
  by_cases h50:(setL l).length≤50
  ·simp only[if_pos h50,if_neg (show ¬ ((setL l).length:Int) > 50 by omega)];exact Ev.now _
  ·simp only[if_neg h50,if_pos (show((setL l).length:Int) > 50 by omega)];exact Ev.now _
 | succ d ih =>
  intro i hi hg
  have hlt:i < l.length:=by omega
  have e2:wrap64 ((i:Int) + 1)=((i + 1:Nat):Int):=by rw[w64 (by omega) (by omega)];rfl
  refine Ev.upZ ?_
  simp only[qzj.l0,if_pos (show(i:Int) < (l.length:Int) by omega),if_pos (Int.natCast_nonneg i),rdA_nat hlt]
  refine Ev.bind (specGoodA_ev (hok _ (List.getElem_mem hlt))) ?_
  by_cases hx:goodA l[i]=true
  ·simp only[if_pos hx,e2]
   exact ih (i + 1) (by omega) (fun x hm=>by
    rw[take_snocA hlt] at hm
    rcases List.mem_append.1 hm with hm|hm
    ·exact hg x hm
    ·rw[List.mem_singleton.1 hm];exact hx)
  ·simp only[if_neg hx]
   rw[setR_bad (fun h=>hx (h.2 _ (List.getElem_mem hlt)))]
   exact Ev.now _
theorem specSetOf_ev (l:List AtmT) (hok:∀ x ∈ l,okAt x):Ev (fun k=>qzj.f k l) (setR l):=by
 simp only[qzj.f]
 by_cases hl:(l.length:Int) > 1000
 ·simp only[if_pos hl]
  rw[setR_bad (fun h=>by have:=h.1;omega)]
  exact Ev.now _
 ·simp only[if_neg hl]
  exact specSet_l0 l (by omega) hok l.length 0 (by omega) (fun x hx=>by simp at hx)
theorem goodSet_l0 (s:List AtmT) (hn:s.length≤50) (hr:Rises s) (hg:∀ x ∈ s,goodA x=true) (hok:∀ x ∈ s,okAt x) (d:Nat):∀ i:Nat,i + d=s.length→Ev (fun k=>qzz.l0 k s (s.length:Int) (i:Int) 2 0 0 ⟨#[]⟩ ⟨#[]⟩ s []) true:=by
 induction d with
 | zero =>
  intro i hi
  obtain rfl:i=s.length:=by omega
  refine Ev.upZ ?_
  simp only[qzz.l0,if_neg (Int.lt_irrefl _),if_true]
  exact Ev.now _
 | succ d ih =>
  intro i hi
  have hlt:i < s.length:=by omega
  have e2:wrap64 ((i:Int) + 1)=((i + 1:Nat):Int):=by rw[w64 (by omega) (by omega)];rfl
  have hn:=ih (i + 1) (by omega)
  refine Ev.upZ ?_
  simp only[qzz.l0,if_pos (show(i:Int) < (s.length:Int) by omega),if_pos (Int.natCast_nonneg i),rdA_nat hlt]
  refine Ev.bind (specGoodA_ev (hok _ (List.getElem_mem hlt))) ?_
  simp only[if_pos (hg _ (List.getElem_mem hlt)),if_true,e2]
  by_cases h0 : 0 < i
  ·obtain⟨q,rfl⟩ : ∃ q,i=q + 1:=⟨i - 1,by omega⟩
   have e1:wrap64 (((q + 1:Nat):Int) - 1)=(q:Int):=by rw[w64 (by omega) (by omega)];omega
   have hc:=specCmp_ev (hok _ (List.getElem_mem (show q < s.length by omega))) (hok _ (List.getElem_mem hlt))
   have hlt2:=List.pairwise_iff_getElem.1 hr q (q + 1) (by omega) hlt (by omega)
   simp only[if_pos (show((q + 1:Nat):Int) > 0 by omega),e1,if_pos (Int.natCast_nonneg q),if_pos (show(q:Int) < (s.length:Int) by omega),rdA_nat (show q < s.length by omega)]
   refine Ev.bind hc ?_
   simp only[if_neg (show ¬ cmpA s[q] s[q + 1] ≥ 0 by omega)]
   exact hn
  ·simp only[if_neg (show ¬ (i:Int) > 0 by omega)]
   exact hn
theorem goodSet_ev (s:List AtmT) (hn:s.length≤50) (hr:Rises s) (hg:∀ x ∈ s,goodA x=true) (hok:∀ x ∈ s,okAt x):Ev (fun k=>qzz.f k 2 0 0 ⟨#[]⟩ ⟨#[]⟩ s []) true:=by
 have e0:(⟨#[]⟩ : ByteArray).toList=([]:List UInt8):=by rw[ByteArray.toList_eq]
 simp only[qzz.f,if_neg (show ¬ (2:Int)=1 by decide),if_true]
 refine Ev.upZ ?_
 simp only[qzz.j0,beq_self_eq_true,if_true,e0,Bool.not_true,Bool.or_self,if_neg (show ¬ (false=true) by decide),decide_eq_false (show ¬ (s.length:Int) > 50 by omega)]
 refine Ev.upZ ?_
 simp only[qzz.j1,if_neg (show ¬ (false=true) by decide)]
 exact goodSet_l0 s hn hr hg hok s.length 0 (by omega)
theorem and255 (X:Int) : 0≤Go.bits .and .u64 X 255∧Go.bits .and .u64 X 255≤255:=by
 have h:((BitVec.ofInt 64 X) &&& (BitVec.ofInt 64 255)).toNat≤255:=by
  rw[BitVec.toNat_and]
  exact Nat.le_trans Nat.and_le_right (by decide)
 have e:Go.bits .and .u64 X 255=IntKind.u64.wrap ((((BitVec.ofInt 64 X) &&& (BitVec.ofInt 64 255)).toNat:Nat):Int):=rfl
 rw[e,IntKind.wrap_u64]
 omega
theorem cur_next (s:List Int) (hs:okL okB s) (p h:Int) (h0 : 0≤p) (h1:p≤1000000000000):∃ v h',qjj.f s p h=some (v,p + 1,h')∧0≤v∧v≤255:=by
 have e:wrap64 (p + 1)=p + 1:=w64 (by omega) (by omega)
 unfold qjj.f
 simp only[e]
 by_cases hp:p < (s.length:Int)
 ·rw[if_pos hp,if_pos h0,if_pos (by omega)]
  have hm:rd s p ∈ s:=by
   have:p.toNat < s.length:=by omega
   simp[rd,List.getD_eq_getElem?_getD,List.getElem?_eq_getElem this]
  have hb : 0≤rd s p∧rd s p≤255:=hs.2 _ hm
  exact⟨_,_,rfl,by rw[w64 (by omega) (by omega)];exact hb.1,by rw[w64 (by omega) (by omega)];exact hb.2⟩
 ·rw[if_neg hp,if_neg (by omega)]
  have hb:=and255 ((IntKind.u64.wrap ((IntKind.u64.wrap (IntKind.u64.wrap (h * 6364136223846793005))) + 1442695040888963407)) / 1099511627776)
  exact⟨_,_,rfl,by rw[w64 (by omega) (by omega)];exact hb.1,by rw[w64 (by omega) (by omega)];exact hb.2⟩
theorem cur_pick (s:List Int) (hs:okL okB s) (p h n:Int) (h0 : 0≤p) (h1:p≤999999999999):∃ v p' h',qjx.f s p h n=some (v,p',h')∧0≤v∧(v < n∨v=0)∧p≤p'∧p'≤p + 2:=by
 unfold qjx.f
 by_cases hn:n≤1
 ·rw[if_pos hn]
  exact⟨_,_,_,rfl,by omega,.inr rfl,by omega,by omega⟩
 ·rw[if_neg hn]
  obtain⟨v,h',e,v0,v1⟩:=cur_next s hs p h h0 (by omega)
  simp only[e,Option.bind_some]
  by_cases h2:n > 200
  ·rw[if_pos h2]
   obtain⟨v2,h2',e2,v20,v21⟩:=cur_next s hs (p + 1) h' (by omega) (by omega)
   simp only[e2,Option.bind_some,if_neg (show ¬ n=0 by omega),w64 (show -9223372036854775808≤v * 256 by omega) (show v * 256≤9223372036854775807 by omega),w64 (show -9223372036854775808≤v * 256 + v2 by omega) (show v * 256 + v2≤9223372036854775807 by omega)]
   refine⟨_,_,_,rfl,?_,.inl ?_,by omega,by omega⟩
   ·rw[Int.tmod_eq_emod_of_nonneg (by omega)];exact Int.emod_nonneg _ (by omega)
   ·rw[Int.tmod_eq_emod_of_nonneg (by omega)];exact Int.emod_lt_of_pos _ (by omega)
  ·rw[if_neg h2,if_neg (show ¬ n=0 by omega)]
   refine⟨_,_,_,rfl,?_,.inl ?_,by omega,by omega⟩
   ·rw[Int.tmod_eq_emod_of_nonneg (by omega)];exact Int.emod_nonneg _ (by omega)
   ·rw[Int.tmod_eq_emod_of_nonneg (by omega)];exact Int.emod_lt_of_pos _ (by omega)
theorem cur_one (s:List Int) (hs:okL okB s) (p h n:Int) (h0 : 0≤p) (h1:p≤999999999999):∃ b p' h',qjw.f s p h n=some (b,p',h')∧p≤p'∧p'≤p + 2:=by
 obtain⟨v,p',h',e,_,_,g1,g2⟩:=cur_pick s hs p h n h0 h1
 unfold qjw.f
 simp only[e,Option.bind_some]
 exact⟨_,_,_,rfl,g1,g2⟩
open Go.RowKit Go.Proofs.YtccbjchlcelkgaaW.PrintWords Go.Proofs.YtccbjchlcelkgaaW.PrintLast Go.Proofs.YtccbjchlcelkgaaW.PrintMore
attribute [local go_sem] max2_int min2_int max_two min_two max_three min_three max_four min_four
def mulT:List Int:=[1103515245,69069,1664525,22695477]
structure OnlyB (w w':World) (g:Nat):Prop where
 os:w'.os=w.os
 tape:w'.tape=w.tape
 output:w'.output=w.output
 size:w'.heap.size=w.heap.size
 block:∀ k,k≠g→w'.heap[k]? = w.heap[k]?
theorem OnlyB.refl (w:World) (g:Nat):OnlyB w w g:=⟨rfl,rfl,rfl,rfl,fun _ _=>rfl⟩
theorem OnlyB.drew {w w':World} {g:Nat} (h:OnlyB w w' g):OnlyB w w'.drew g:=⟨h.os,h.tape,h.output,h.size,h.block⟩
theorem OnlyB.set {w w':World} {g:Nat} (h:OnlyB w w' g) (j:Nat) (u:Value):OnlyB w (w'.setCell ⟨g,j,none⟩ u) g :=
 ⟨h.os,h.tape,h.output,by simpa [World.setCell] using h.size,fun k hk=>(Below.heap_setCell w' ⟨g,j,none⟩ u k hk).trans (h.block k hk)⟩
def isBytes (l:List Int):Prop:=∀ x ∈ l,0≤x∧x≤255
instance (l:List Int):Decidable (isBytes l):=by unfold isBytes;infer_instance
structure DigInv (w wr:World) (a:List Int):Prop where
 A:wr.heap[w.heap.size]? = some (.cells (nums .i64 a).toArray 163 (0,0))
 M:wr.heap[w.heap.size + 1]? = some (.cells (nums .i64 mulT).toArray 163 (0,0))
 B:Below w.heap.size w wr
 len:a.length=4
 bd:∀ j,j < 4→0≤a.getD j 0∧a.getD j 0 < 2147483579
theorem DigInv.drew {w wr:World} {a:List Int} (h:DigInv w wr a):DigInv w wr.drew a:=⟨h.A,h.M,h.B.drew,h.len,h.bd⟩
theorem DigInv.keep {w wr w':World} {a:List Int} (h:DigInv w wr a) (hb:Below (w.heap.size + 2) wr w'):DigInv w w' a :=
 ⟨(hb.block _ (by omega)).trans h.A,(hb.block _ (by omega)).trans h.M,h.B.trans (hb.mono (by omega)),h.len,h.bd⟩
theorem DigInv.lt {w wr:World} {a:List Int} (h:DigInv w wr a):w.heap.size + 2≤wr.heap.size:=blk_lt h.M
theorem DigInv.start (w:World):DigInv w ((w.alloc (.cells #[.int .i64 11,.int .i64 22,.int .i64 33,.int .i64 44] 163)).alloc (.cells #[.int .i64 1103515245,.int .i64 69069,.int .i64 1664525,.int .i64 22695477] 163)) [11,22,33,44] :=
 ⟨qv (blk_new w _) _,by have:=blk_new (w.alloc (.cells #[.int .i64 11,.int .i64 22,.int .i64 33,.int .i64 44] 163)) (.cells (nums .i64 mulT).toArray 163 (0,0));simpa [nums,mulT] using this,((Below.refl _ _).alloc (Nat.le_refl _) _).alloc (by simp) _,rfl,by decide⟩
theorem cur_block (s:List Int) (hs:okL okB s) (p h:Int) (h0 : 0≤p) (h1:p≤800000000000):∃ (n p' h':Int),(∀ k,40 < k→qjz.f k s p h=some (6,n,(⟨#[]⟩ : ByteArray),(⟨#[]⟩ : ByteArray),p',h'))∧0≤n∧n≤1000000000000∧p≤p'∧p'≤p + 10:=by
 obtain⟨v,p1,h1',e1,v0,v1,a1,b1⟩:=cur_pick s hs p h 6 h0 (by omega)
 obtain⟨u,p2,h2',e2,u0,u1,a2,b2⟩:=cur_pick s hs p1 h1' 4 (by omega) (by omega)
 obtain⟨x,p3,h3',e3,x0,x1,a3,b3⟩:=cur_pick s hs p2 h2' 3 (by omega) (by omega)
 obtain⟨y,p4,h4',e4,y0,y1,a4,b4⟩:=cur_pick s hs p3 h3' 2 (by omega) (by omega)
 obtain⟨z,p5,h5',e5,z0,z1,a5,b5⟩:=cur_pick s hs p4 h4' 4 (by omega) (by omega)
 have hbits:∃ b:Nat,rd [0,8,16,24,31,32] v=(b:Int)∧b≤32:=by
  have hv:v=0∨v=1∨v=2∨v=3∨v=4∨v=5:=by omega
  rcases hv with rfl|rfl|rfl|rfl|rfl|rfl
  ·exact⟨0,rfl,by omega⟩
  ·exact⟨8,rfl,by omega⟩
  ·exact⟨16,rfl,by omega⟩
  ·exact⟨24,rfl,by omega⟩
  ·exact⟨31,rfl,by omega⟩
  ·exact⟨32,rfl,by omega⟩
 have hf : 0≤rd [10,10,192,255] u∧rd [10,10,192,255] u≤255:=by
  have hu:u=0∨u=1∨u=2∨u=3:=by omega
  rcases hu with rfl|rfl|rfl|rfl
  ·exact⟨by decide,by decide⟩
  ·exact⟨by decide,by decide⟩
  ·exact⟨by decide,by decide⟩
  ·exact⟨by decide,by decide⟩
 obtain⟨b,hb,hb32⟩:=hbits
 generalize hg:rd [10,10,192,255] u=f at hf
 have hw:wrap64 ((wrap64 ((wrap64 ((wrap64 (f * 16777216)) + (wrap64 (x * 65536)))) + (wrap64 (y * 256)))) + z)=f * 16777216 + x * 65536 + y * 256 + z:=by
  rw[w64 (n:=f * 16777216) (by omega) (by omega),w64 (n:=x * 65536) (by omega) (by omega),w64 (n:=y * 256) (by omega) (by omega),w64 (n:=f * 16777216 + x * 65536) (by omega) (by omega),w64 (n:=f * 16777216 + x * 65536 + y * 256) (by omega) (by omega),w64 (by omega) (by omega)]
 generalize hF:f * 16777216 + x * 65536 + y * 256 + z=F at hw
 have hF0 : 0≤F∧F≤4300000000:=by omega
 have h32:wrap64 (32 - (b:Int))=((32 - b:Nat):Int):=by rw[w64 (by omega) (by omega)];omega
 have hm:=pow_pos2 (32 - b)
 generalize hM:(2:Int) ^ (32 - b)=M at hm
 have hq0 : 0≤F / M:=Int.ediv_nonneg hF0.1 (by omega)
 have hq1:F / M≤F:=Int.ediv_le_self M hF0.1
 have hqm0 : 0≤F / M * M:=Int.mul_nonneg hq0 (by omega)
 have hqm1:F / M * M≤F:=Int.ediv_mul_le F (by omega)
 have ed:wrap64 (Int.tdiv F M)=F / M:=by rw[Int.tdiv_eq_ediv_of_nonneg hF0.1,w64 (by omega) (by omega)]
 have e6:wrap64 (F / M * M)=F / M * M:=w64 (by omega) (by omega)
 have e7:wrap64 (F / M * M * 64)=F / M * M * 64:=w64 (by omega) (by omega)
 have e8:wrap64 (F / M * M * 64 + (b:Int))=F / M * M * 64 + b:=w64 (by omega) (by omega)
 refine⟨F / M * M * 64 + b,p5,h5',fun k hk=>?_,by omega,by omega,by omega,by omega⟩
 have ep:qkv.f k ((32 - b:Nat):Int)=some M:=by rw[← hM];exact pow2_eq _ (by omega) k (by omega)
 simp only[qjz.f,Option.bind_some,e1,e2,e3,e4,e5,hb,hg,if_pos v0,if_pos u0,List.length_cons,List.length_nil,if_pos (show v < ((0 + 1 + 1 + 1 + 1 + 1 + 1:Nat):Int) by omega),if_pos (show u < ((0 + 1 + 1 + 1 + 1:Nat):Int) by omega),h32,ep,hw,if_neg (show ¬ M=0 by omega),ed,e6,e7,e8]
theorem wide_l0 (s:List Int) (hs:okL okB s) (d:Nat):∀ (x p h:Int) (j:Nat),j + d=8→0≤p→p + d≤900000000000→∃ (v p' h':Int),(∀ k,d < k→qkz.l0 k x (j:Int) s p h=some (v,p',h'))∧p≤p'∧p'≤p + d:=by
 induction d with
 | zero =>
  intro x p h j hj h0 h1
  refine⟨x,p,h,fun k hk=>?_,by omega,by omega⟩
  obtain⟨k,rfl⟩ : ∃ m,k=m + 1:=⟨k - 1,by omega⟩
  rw[qkz.l0,if_neg (by omega)]
 | succ d ih =>
  intro x p h j hj h0 h1
  obtain⟨v,h',e,v0,v1⟩:=cur_next s hs p h h0 (by omega)
  obtain⟨w,p',h2,e2,g1,g2⟩:=ih (Go.bits .or .i64 (wrap64 (x * 256)) v) (p + 1) h' (j + 1) (by omega) (by omega) (by omega)
  refine⟨w,p',h2,fun k hk=>?_,by omega,by omega⟩
  obtain⟨k,rfl⟩ : ∃ m,k=m + 1:=⟨k - 1,by omega⟩
  have ew:wrap64 ((j:Int) + 1)=((j + 1:Nat):Int):=by rw[w64 (by omega) (by omega)];rfl
  rw[qkz.l0,if_pos (by omega),e,Option.bind_some,ew]
  exact e2 k (by omega)
theorem cur_wide (s:List Int) (hs:okL okB s) (p h:Int) (h0 : 0≤p) (h1:p≤800000000000):∃ (v p' h':Int),(∀ k,8 < k→qkz.f k s p h=some (v,p',h'))∧p≤p'∧p'≤p + 8:=by
 obtain⟨v,p',h',e,g1,g2⟩:=wide_l0 s hs 8 0 p h 0 (by omega) h0 (by omega)
 exact⟨v,p',h',fun k hk=>e k hk,g1,g2⟩
theorem str_size (L:List Int):(strOfNums L).size=L.length:=by
 unfold strOfNums
 show(List.toArray _).size=_
 rw[List.size_toArray,List.length_map]
theorem printed_l0 (s:List Int) (hs:okL okB s) (d:Nat):∀ (x:List Int) (p h:Int),x.length + d≤1000→0≤p→p + 2 * d≤900000000000→∃ (t:ByteArray) (p' h':Int),(∀ k,d < k→qkq.l0 k x (d:Int) s p h=some (t,p',h'))∧t.size=x.length + d∧p≤p'∧p'≤p + 2 * d:=by
 induction d with
 | zero =>
  intro x p h hl h0 h1
  refine⟨strOfNums x,p,h,fun k hk=>?_,str_size x,by omega,by omega⟩
  obtain⟨k,rfl⟩ : ∃ m,k=m + 1:=⟨k - 1,by omega⟩
  rw[qkq.l0,if_neg (by omega)]
 | succ d ih =>
  intro x p h hl h0 h1
  obtain⟨v,p1,h1',e,v0,v1,g1,g2⟩:=cur_pick s hs p h 18 h0 (by omega)
  obtain⟨t,p',h',e2,ht,g3,g4⟩:=ih (x ++ [bt (⟨#[97,98,42,92,34,44,58,32,91,93,123,125,64,49,46,47,120,126,32]⟩ : ByteArray) v]) p1 h1' (by rw[List.length_append,List.length_singleton];omega) (by omega) (by omega)
  refine⟨t,p',h',fun k hk=>?_,by rw[ht,List.length_append,List.length_singleton];omega,by omega,by omega⟩
  obtain⟨k,rfl⟩ : ∃ m,k=m + 1:=⟨k - 1,by omega⟩
  have ew:wrap64 (((d + 1:Nat):Int) - 1)=(d:Int):=by rw[w64 (by omega) (by omega)];omega
  rw[qkq.l0,if_pos (by omega),e,Option.bind_some]
  dsimp only
  rw[if_pos v0,if_pos (by omega),if_pos (by omega),ew]
  exact e2 k (by omega)
theorem cur_printed (s:List Int) (hs:okL okB s) (p h:Int) (h0 : 0≤p) (h1:p≤800000000000):∃ (t:ByteArray) (p' h':Int),(∀ k,10 < k→qkq.f k s p h=some (t,p',h'))∧t.size≤6∧p≤p'∧p'≤p + 14:=by
 obtain⟨v,p1,h1',e,v0,v1,g1,g2⟩:=cur_pick s hs p h 6 h0 (by omega)
 obtain⟨m,rfl⟩:=Int.eq_ofNat_of_zero_le v0
 obtain⟨t,p',h',e2,ht,g3,g4⟩:=printed_l0 s hs m [] p1 h1' (by simp;omega) (by omega) (by omega)
 refine⟨t,p',h',fun k hk=>?_,by rw[ht];simp;omega,by omega,by omega⟩
 unfold qkq.f
 rw[e,Option.bind_some]
 exact e2 k (by omega)
theorem of_three (s:List Int) (hs:okL okB s) (p h:Int) (l:List ByteArray) (hl : 1≤l.length) (hl2:l.length≤100) (hz:∀ t ∈ l,t.size≤50) (h0 : 0≤p) (h1:p≤900000000000):∃ (t:ByteArray) (p' h':Int),qjv.f s p h l=some (t,p',h')∧t.size≤50∧p≤p'∧p'≤p + 2:=by
 obtain⟨v,p1,h1',e,v0,v1,g1,g2⟩:=cur_pick s hs p h l.length h0 (by omega)
 obtain⟨i,rfl⟩:=Int.eq_ofNat_of_zero_le v0
 have hi:i < l.length:=by omega
 unfold qjv.f
 simp only[e,Option.bind_some,if_pos v0,if_pos (show(i:Int) < (l.length:Int) by omega)]
 refine⟨_,_,_,rfl,?_,g1,g2⟩
 have:l.getD (Int.toNat (i:Int)) ByteArray.empty ∈ l:=by
  rw[Int.toNat_natCast,List.getD_eq_getElem?_getD,List.getElem?_eq_getElem hi]
  exact List.getElem_mem hi
 exact hz _ this
open Go.RowKit Go.Proofs.Ytccbjchlcelkgaa.Read Go.Proofs.YtccbjchlcelkgaaW.PrintWords Go.Proofs.YtccbjchlcelkgaaW.PrintLast
theorem wrap_okI (x:Int):okI (wrap64 x):=by
 unfold okI wrap64
 omega
theorem bits_okI (x y:Int):okI (Go.bits .or .i64 x y):=by
 show okI (IntKind.i64.wrap _)
 rw[i64_w]
 exact wrap_okI _
theorem wide_okI (k:Nat):∀ (x j p h v p' h':Int) (s:List Int),okI x→qkz.l0 k x j s p h=some (v,p',h')→okI v:=by
 induction k with
 | zero=>intro x j p h v p' h' s _ e;simp[qkz.l0] at e
 | succ k ih =>
  intro x j p h v p' h' s hx e
  rw[qkz.l0] at e
  split at e
  ·obtain⟨b,_,e⟩:=jq8.1 e
   exact ih _ _ _ _ _ _ _ _ (bits_okI _ _) e
  ·simp only[Option.some.injEq,Prod.mk.injEq] at e
   rw[← e.1];exact hx
theorem cur_wideK (s:List Int) (hs:okL okB s) (p h:Int) (h0 : 0≤p) (h1:p≤800000000000):∃ (v p' h':Int),(∀ k,8 < k→qkz.f k s p h=some (v,p',h'))∧okI v∧p≤p'∧p'≤p + 8:=by
 obtain⟨v,p',h',e,g1,g2⟩:=cur_wide s hs p h h0 h1
 exact⟨v,p',h',e,wide_okI 9 _ _ _ _ _ _ _ _ ⟨by omega,by omega⟩ (e 9 (by omega)),g1,g2⟩
theorem cur_atomK (s:List Int) (hs:okL okB s) (p h:Int) (h0 : 0≤p) (h1:p≤700000000000):∃ (k n:Int) (t ty:ByteArray) (p' h':Int),(∀ f,40 < f→qjq.f f s p h=some (k,n,t,ty,p',h'))∧(t.size≤1000∧ty.size≤1000∧okI n)∧p≤p'∧p'≤p + 20:=by
 obtain⟨v,p1,h1',e,v0,v1,g1,g2⟩:=cur_pick s hs p h 9 h0 (by omega)
 have hE:(⟨#[]⟩ : ByteArray).size=0:=rfl
 by_cases c0:v=0
 ·obtain⟨w,p2,h2,e2,w0,w1,g3,g4⟩:=cur_pick s hs p1 h1' 2 (by omega) (by omega)
  refine⟨_,_,_,_,p2,h2,fun f hf=>by simp only[qjq.f,e,Option.bind_some,if_pos c0,e2];rfl,⟨by omega,by omega,by first|exact wk|exact wrap_okI _|exact⟨by omega,by omega⟩⟩,by omega,by omega⟩
 by_cases c1:v=1
 ·obtain⟨w,p2,h2,e2,w0,w1,g3,g4⟩:=cur_pick s hs p1 h1' 7 (by omega) (by omega)
  refine⟨_,_,_,_,p2,h2,fun f hf=>by simp only[qjq.f,e,Option.bind_some,if_neg c0,if_pos c1,e2];rfl,⟨by omega,by omega,by first|exact wk|exact wrap_okI _|exact⟨by omega,by omega⟩⟩,by omega,by omega⟩
 by_cases c2:v=2
 ·obtain⟨w,p2,h2,e2,wk,g3,g4⟩:=cur_wideK s hs p1 h1' (by omega) (by omega)
  refine⟨_,_,_,_,p2,h2,fun f hf=>by simp only[qjq.f,e,Option.bind_some,if_neg c0,if_neg c1,if_pos c2,e2 f (by omega)];rfl,⟨by omega,by omega,by first|exact wk|exact wrap_okI _|exact⟨by omega,by omega⟩⟩,by omega,by omega⟩
 by_cases c3:v=3
 ·obtain⟨t,p2,h2,e2,ht,g3,g4⟩:=cur_printed s hs p1 h1' (by omega) (by omega)
  refine⟨_,_,_,_,p2,h2,fun f hf=>by simp only[qjq.f,e,Option.bind_some,if_neg c0,if_neg c1,if_neg c2,if_pos c3,e2 f (by omega)];rfl,⟨by omega,by omega,by first|exact wk|exact wrap_okI _|exact⟨by omega,by omega⟩⟩,by omega,by omega⟩
 by_cases c4:v=4
 ·obtain⟨t,p2,h2,e2,ht,g3,g4⟩:=of_three s hs p1 h1' [(⟨#[85,115,101,114]⟩ : ByteArray),(⟨#[68,111,99]⟩ : ByteArray),(⟨#[95,103,49]⟩ : ByteArray)] (by decide) (by decide) (by decide) (by omega) (by omega)
  obtain⟨t2,p3,h3,e3,ht2,g5,g6⟩:=of_three s hs p2 h2 [(⟨#[97,110,110]⟩ : ByteArray),(⟨#[98,111,98]⟩ : ByteArray),(⟨#[97,32,98]⟩ : ByteArray),(⟨#[120,34,121]⟩ : ByteArray),(⟨#[92]⟩ : ByteArray)] (by decide) (by decide) (by decide) (by omega) (by omega)
  refine⟨_,_,_,_,p3,h3,fun f hf=>by simp only[qjq.f,e,Option.bind_some,if_neg c0,if_neg c1,if_neg c2,if_neg c3,if_pos c4,e2,e3];rfl,⟨by omega,by omega,by first|exact wk|exact wrap_okI _|exact⟨by omega,by omega⟩⟩,by omega,by omega⟩
 by_cases c5:v=5
 ·obtain⟨w,p2,h2,e2,w0,w1,g3,g4⟩:=cur_pick s hs p1 h1' 40000 (by omega) (by omega)
  refine⟨_,_,_,_,p2,h2,fun f hf=>by simp only[qjq.f,e,Option.bind_some,if_neg c0,if_neg c1,if_neg c2,if_neg c3,if_neg c4,if_pos c5,e2];rfl,⟨by omega,by omega,by first|exact wk|exact wrap_okI _|exact⟨by omega,by omega⟩⟩,by omega,by omega⟩
 by_cases c6:v=6
 ·obtain⟨n,p2,h2,e2,n0,n1,g3,g4⟩:=cur_block s hs p1 h1' (by omega) (by omega)
  refine⟨_,_,_,_,p2,h2,fun f hf=>by simp only[qjq.f,e,Option.bind_some,if_neg c0,if_neg c1,if_neg c2,if_neg c3,if_neg c4,if_neg c5,if_pos c6,e2 f (by omega)];rfl,⟨by omega,by omega,by first|exact wk|exact wrap_okI _|exact⟨by omega,by omega⟩⟩,by omega,by omega⟩
 by_cases c7:v=7
 ·obtain⟨w,p2,h2,e2,w0,w1,g3,g4⟩:=cur_pick s hs p1 h1' 1000 (by omega) (by omega)
  refine⟨_,_,_,_,p2,h2,fun f hf=>by simp only[qjq.f,e,Option.bind_some,if_neg c0,if_neg c1,if_neg c2,if_neg c3,if_neg c4,if_neg c5,if_neg c6,if_pos c7,e2];rfl,⟨by omega,by omega,by first|exact wk|exact wrap_okI _|exact⟨by omega,by omega⟩⟩,by omega,by omega⟩
 ·obtain⟨w,p2,h2,e2,wk,g3,g4⟩:=cur_wideK s hs p1 h1' (by omega) (by omega)
  refine⟨_,_,_,_,p2,h2,fun f hf=>by simp only[qjq.f,e,Option.bind_some,if_neg c0,if_neg c1,if_neg c2,if_neg c3,if_neg c4,if_neg c5,if_neg c6,if_neg c7,e2 f (by omega)];rfl,⟨by omega,by omega,by first|exact wk|exact wrap_okI _|exact⟨by omega,by omega⟩⟩,by omega,by omega⟩
theorem odd_l0 (n k t:Int) (tx ty:ByteArray) (s:List Int) (p h:Int) (d:Nat):∀ (x:List Int) (i:Nat),i + d=x.length→x.length≤1000→∃ t2:ByteArray,t2.size=x.length∧∀ f,d < f→qjk.l0 f x (x.length:Int) (i:Int) s p h k n tx ty=some (k,n,t2,ty,p,h):=by
 induction d with
 | zero =>
  intro x i hi hx
  refine⟨strOfNums x,str_size x,fun f hf=>?_⟩
  obtain⟨f,rfl⟩ : ∃ m,f=m + 1:=⟨f - 1,by omega⟩
  rw[qjk.l0,if_neg (by omega)]
 | succ d ih =>
  intro x i hi hx
  obtain⟨t2,h1,h2⟩:=ih (x.set i 113) (i + 1) (by rw[List.length_set];omega) (by rw[List.length_set];exact hx)
  rw[List.length_set] at h1 h2
  refine⟨t2,h1,fun f hf=>?_⟩
  obtain⟨f,rfl⟩ : ∃ m,f=m + 1:=⟨f - 1,by omega⟩
  have e2:wrap64 ((i:Int) + 1)=((i + 1:Nat):Int):=by rw[w64 (by omega) (by omega)];rfl
  rw[qjk.l0,if_pos (by omega),if_pos (Int.natCast_nonneg i),if_pos (by omega),e2,Int.toNat_natCast]
  exact h2 f (by omega)
theorem cur_odd (s:List Int) (hs:okL okB s) (p h:Int) (x:AtmT) (hx:okAt x) (h0 : 0≤p) (h1:p≤700000000000):∃ (y:AtmT) (p' h':Int),(∀ f,300 < f→qjk.f f s p h x.f0 x.f1 x.f2 x.f3=some (y.f0,y.f1,y.f2,y.f3,p',h'))∧okAt y∧p≤p'∧p'≤p + 10:=by
 obtain⟨v,p1,h1',e,v0,v1,g1,g2⟩:=cur_pick s hs p h 16 h0 (by omega)
 obtain⟨x0,x1,x2⟩:=hx
 by_cases c0:v=0
 ·obtain⟨w,p2,h2,e2,w0,w1,g3,g4⟩:=cur_pick s hs p1 h1' 9 (by omega) (by omega)
  exact⟨⟨w,x.f1,x.f2,x.f3⟩,p2,h2,fun f hf=>by simp only[qjk.f,e,Option.bind_some,if_pos c0,e2],⟨x0,x1,x2⟩,by omega,by omega⟩
 by_cases c1:v=1
 ·obtain⟨w,p2,h2,e2,w0,w1,g3,g4⟩:=cur_pick s hs p1 h1' 7 (by omega) (by omega)
  have hlen:(([(-1),2,33,wrap64 ((wrap64 (64 * (2 ^ 32))) + 1),100000000001,(-100000000000),65]:List Int).length:Int)=7:=rfl
  have hok:∀ y ∈ ([(-1),2,33,wrap64 ((wrap64 (64 * (2 ^ 32))) + 1),100000000001,(-100000000000),65]:List Int),okI y:=by
   intro y hy
   simp only[List.mem_cons,List.not_mem_nil,or_false] at hy
   rcases hy with rfl|rfl|rfl|rfl|rfl|rfl|rfl
   ·exact⟨by omega,by omega⟩
   ·exact⟨by omega,by omega⟩
   ·exact⟨by omega,by omega⟩
   ·exact wrap_okI _
   ·exact⟨by omega,by omega⟩
   ·exact⟨by omega,by omega⟩
   ·exact⟨by omega,by omega⟩
  refine⟨⟨x.f0,rd ([(-1),2,33,wrap64 ((wrap64 (64 * (2 ^ 32))) + 1),100000000001,(-100000000000),65]:List Int) w,x.f2,x.f3⟩,p2,h2,fun f hf=>?_,⟨x0,x1,?_⟩,by omega,by omega⟩
  ·have hp:=pow2_eq 32 (by omega) f (by omega)
   simp only[Int.cast_ofNat_Int] at hp
   simp only[qjk.f,e,Option.bind_some,if_neg c0,if_pos c1,hp,e2,hlen,if_pos w0,if_pos (show w < 7 by omega)]
  ·generalize hL:([(-1),2,33,wrap64 ((wrap64 (64 * (2 ^ 32))) + 1),100000000001,(-100000000000),65]:List Int)=L at hlen hok
   show okI (L.getD w.toNat 0)
   rw[List.getD_eq_getElem?_getD,List.getElem?_eq_getElem (show w.toNat < L.length by omega)]
   exact hok _ (List.getElem_mem _)
 by_cases c2:v=2
 ·obtain⟨t,p2,h2,e2,ht,g3,g4⟩:=of_three s hs p1 h1' [(⟨#[]⟩ : ByteArray),(⟨#[120]⟩ : ByteArray),(⟨#[97,9,98]⟩ : ByteArray)] (by decide) (by decide) (by decide) (by omega) (by omega)
  exact⟨⟨x.f0,x.f1,t,x.f3⟩,p2,h2,fun f hf=>by simp only[qjk.f,e,Option.bind_some,if_neg c0,if_neg c1,if_pos c2,e2],⟨Nat.le_trans ht (by decide),x1,x2⟩,by omega,by omega⟩
 by_cases c3:v=3
 ·obtain⟨t,p2,h2,e2,ht,g3,g4⟩:=of_three s hs p1 h1' [(⟨#[]⟩ : ByteArray),(⟨#[84]⟩ : ByteArray),(⟨#[49,97]⟩ : ByteArray)] (by decide) (by decide) (by decide) (by omega) (by omega)
  exact⟨⟨x.f0,x.f1,x.f2,t⟩,p2,h2,fun f hf=>by simp only[qjk.f,e,Option.bind_some,if_neg c0,if_neg c1,if_neg c2,if_pos c3,e2],⟨x0,Nat.le_trans ht (by decide),x2⟩,by omega,by omega⟩
 by_cases c4:v=4
 ·obtain⟨w,p2,h2,e2,w0,w1,g3,g4⟩:=cur_pick s hs p1 h1' 3 (by omega) (by omega)
  have ew:wrap64 (199 + w)=((199 + w.toNat:Nat):Int):=by rw[w64 (by omega) (by omega)];omega
  have hz:(List.replicate (199 + w.toNat) (0:Int)).length=199 + w.toNat:=List.length_replicate
  obtain⟨t2,t2s,e3⟩:=odd_l0 x.f1 x.f0 0 x.f2 x.f3 s p2 h2 (199 + w.toNat) (List.replicate (199 + w.toNat) (0:Int)) 0 (by rw[hz];omega) (by rw[hz];omega)
  rw[hz] at t2s e3
  refine⟨⟨x.f0,x.f1,t2,x.f3⟩,p2,h2,fun f hf=>?_,⟨by show t2.size≤1000;omega,x1,x2⟩,by omega,by omega⟩
  have:=e3 f (by omega)
  simp only[qjk.f,e,Option.bind_some,if_neg c0,if_neg c1,if_neg c2,if_neg c3,if_pos c4,e2,ew,if_pos (Int.natCast_nonneg (199 + w.toNat)),Int.toNat_natCast,if_pos (show 199 + w.toNat≤281474976710656 by omega),hz]
  exact this
 ·exact⟨x,p1,h1',fun f hf=>by simp only[qjk.f,e,Option.bind_some,if_neg c0,if_neg c1,if_neg c2,if_neg c3,if_neg c4],⟨x0,x1,x2⟩,by omega,by omega⟩
theorem draw_j2 (s:List Int) (hs:okL okB s) (acc:List AtmT) (p h:Int) (ha:∀ x ∈ acc,okAt x) (h0 : 0≤p) (h1:p≤600000000000):∃ l:List AtmT,(∀ x ∈ l,okAt x)∧l.length=acc.length∧Ev (fun k=>qqw.j2 k acc s p h) l:=by
 obtain⟨b,p1,h1',e,g1,g2⟩:=cur_one s hs p h 12 h0 (by omega)
 by_cases hb:b=true
 ·by_cases hl : 0 < acc.length
  ·have hx:=ha _ (List.getElem_mem hl)
   have hr:vz acc 0=acc[0]:=rdA_nat (i:=0) hl
   obtain⟨y,p2,h2,e2,hy,_,_⟩:=cur_odd s hs p1 h1' acc[0] hx (by omega) (by omega)
   refine⟨acc.set 0 y,fun x hxm=>?_,by simp,Ev.upZ ?_⟩
   ·rcases List.mem_or_eq_of_mem_set hxm with h|rfl
    ·exact ha x h
    ·exact hy
   ·simp only[qqw.j2,e,Option.bind_some,hb,if_true,if_pos (show(acc.length:Int) > 0 by omega),if_pos (show 0 < (acc.length:Int) by omega),hr]
    exact Ev.bind ⟨301,fun k hk=>e2 k (by omega)⟩ (Ev.now _)
  ·refine⟨acc,ha,rfl,Ev.upZ ?_⟩
   simp only[qqw.j2,e,Option.bind_some,hb,if_true,if_neg (show ¬ (acc.length:Int) > 0 by omega)]
   exact Ev.now _
 ·refine⟨acc,ha,rfl,Ev.upZ ?_⟩
  simp only[qqw.j2,e,Option.bind_some,if_neg hb]
  exact Ev.now _
theorem draw_l1 (s:List Int) (hs:okL okB s) (n:Nat) (hn:n≤100) (p h:Int) (h0 : 0≤p) (h1:p≤600000000000) (d:Nat):∀ acc:List AtmT,(∀ x ∈ acc,okAt x)→acc.length≤200→n≤acc.length + d→∃ l:List AtmT,(∀ x ∈ l,okAt x)∧l.length≤200 + d∧Ev (fun k=>qqw.l1 k acc (n:Int) s p h) l:=by
 induction d with
 | zero =>
  intro acc ha hl hd
  obtain⟨l,l1,l2,l3⟩:=draw_j2 s hs acc p h ha h0 h1
  refine⟨l,l1,by omega,Ev.upZ ?_⟩
  simp only[qqw.l1,if_neg (show ¬ (acc.length:Int) < (n:Int) by omega)]
  exact l3
 | succ d ih =>
  intro acc ha hl hd
  by_cases hlt:acc.length < n
  ·obtain⟨l,l1,l2,l3⟩:=ih (acc ++ [(⟨2,wrap64 (100 - (acc.length:Int)),(⟨#[]⟩ : ByteArray),(⟨#[]⟩ : ByteArray)⟩ : AtmT)]) (fun x hx=>by
    rcases List.mem_append.1 hx with hx|hx
    ·exact ha x hx
    ·rw[List.mem_singleton.1 hx];exact⟨Nat.zero_le _,Nat.zero_le _,wrap_okI _⟩) (by simp;omega) (by simp;omega)
   refine⟨l,l1,by omega,Ev.upZ ?_⟩
   simp only[qqw.l1,if_pos (show(acc.length:Int) < (n:Int) by omega),if_pos (show acc.length < 2932031007402 by omega)]
   exact l3
  ·obtain⟨l,l1,l2,l3⟩:=draw_j2 s hs acc p h ha h0 h1
   refine⟨l,l1,by omega,Ev.upZ ?_⟩
   simp only[qqw.l1,if_neg (show ¬ (acc.length:Int) < (n:Int) by omega)]
   exact l3
theorem draw_l0 (s:List Int) (hs:okL okB s) (d:Nat):∀ (acc:List AtmT) (p h:Int),(∀ x ∈ acc,okAt x)→acc.length + 2 * d≤200→0≤p→p + 100 * d≤500000000000→∃ l:List AtmT,(∀ x ∈ l,okAt x)∧l.length≤300∧Ev (fun k=>qqw.l0 k acc (d:Int) s p h) l:=by
 induction d with
 | zero =>
  intro acc p h ha hl h0 h1
  obtain⟨b,p1,h1',e,g1,g2⟩:=cur_one s hs p h 20 h0 (by omega)
  by_cases hb:b=true
  ·obtain⟨v,p2,h2,e2,v0,v1,g3,g4⟩:=cur_pick s hs p1 h1' 3 (by omega) (by omega)
   have ew:wrap64 (49 + v)=((49 + v.toNat:Nat):Int):=by rw[w64 (by omega) (by omega)];omega
   obtain⟨l,l1,l2,l3⟩:=draw_l1 s hs (49 + v.toNat) (by omega) p2 h2 (by omega) (by omega) 60 acc ha (by omega) (by omega)
   refine⟨l,l1,by omega,Ev.upZ ?_⟩
   simp only[qqw.l0,if_neg (show ¬ ((0:Nat):Int) > 0 by decide),e,Option.bind_some,if_pos hb,e2,ew]
   exact l3
  ·obtain⟨l,l1,l2,l3⟩:=draw_j2 s hs acc p1 h1' ha (by omega) (by omega)
   refine⟨l,l1,by omega,Ev.upZ ?_⟩
   simp only[qqw.l0,if_neg (show ¬ ((0:Nat):Int) > 0 by decide),e,Option.bind_some,if_neg hb]
   exact l3
 | succ d ih =>
  intro acc p h ha hl h0 h1
  obtain⟨k,n,t,ty,p1,h1',e,⟨hk1,hk2,hk3⟩,g1,g2⟩:=cur_atomK s hs p h h0 (by omega)
  have ha2:∀ x ∈ acc ++ [(⟨k,n,t,ty⟩ : AtmT)],okAt x:=fun x hx=>by
   rcases List.mem_append.1 hx with hx|hx
   ·exact ha x hx
   ·rw[List.mem_singleton.1 hx];exact⟨hk1,hk2,hk3⟩
  have hz:(acc ++ [(⟨k,n,t,ty⟩ : AtmT)]).length=acc.length + 1:=by simp
  obtain⟨b,p2,h2,e2,g3,g4⟩:=cur_one s hs p1 h1' 3 (by omega) (by omega)
  have ew:wrap64 (((d + 1:Nat):Int) - 1)=(d:Int):=by rw[w64 (by omega) (by omega)];omega
  by_cases hb:b=true
  ·obtain⟨v,p3,h3,e3,v0,v1,g5,g6⟩:=cur_pick s hs p2 h2 ((acc ++ [(⟨k,n,t,ty⟩ : AtmT)]).length:Int) (by omega) (by omega)
   have hv:v.toNat < (acc ++ [(⟨k,n,t,ty⟩ : AtmT)]).length:=by omega
   have hvi:v=(v.toNat:Int):=by omega
   have hr:vz (acc ++ [(⟨k,n,t,ty⟩ : AtmT)]) v=(acc ++ [(⟨k,n,t,ty⟩ : AtmT)])[v.toNat]:=(congrArg (vz (acc ++ [(⟨k,n,t,ty⟩ : AtmT)])) hvi).trans (rdA_nat hv)
   have hm:=ha2 _ (List.getElem_mem hv)
   obtain⟨l,l1,l2,l3⟩:=ih (acc ++ [(⟨k,n,t,ty⟩ : AtmT)] ++ [(acc ++ [(⟨k,n,t,ty⟩ : AtmT)])[v.toNat]]) p3 h3 (fun x hx=>by
    rcases List.mem_append.1 hx with hx|hx
    ·exact ha2 x hx
    ·rw[List.mem_singleton.1 hx];exact hm) (by rw[List.length_append,hz];simp;omega) (by omega) (by omega)
   refine⟨l,l1,l2,Ev.upZ ?_⟩
   simp only[qqw.l0,if_pos (show((d + 1:Nat):Int) > 0 by omega)]
   refine Ev.bind ⟨1001,fun f hf=>e f (by omega)⟩ ?_
   simp only[if_pos (show acc.length < 2932031007402 by omega),Option.bind_some,e2,if_pos hb,e3,if_pos v0,if_pos (show v < ((acc ++ [(⟨k,n,t,ty⟩ : AtmT)]).length:Int) by omega),if_pos (show(acc ++ [(⟨k,n,t,ty⟩ : AtmT)]).length < 2932031007402 by omega),hr,ew]
   exact l3
  ·obtain⟨l,l1,l2,l3⟩:=ih (acc ++ [(⟨k,n,t,ty⟩ : AtmT)]) p2 h2 ha2 (by omega) (by omega) (by omega)
   refine⟨l,l1,l2,Ev.upZ ?_⟩
   simp only[qqw.l0,if_pos (show((d + 1:Nat):Int) > 0 by omega)]
   refine Ev.bind ⟨1001,fun f hf=>e f (by omega)⟩ ?_
   simp only[if_pos (show acc.length < 2932031007402 by omega),Option.bind_some,e2,if_neg hb,ew]
   exact l3
theorem drawSet_ev (s:List Int) (hs:okL okB s):∃ l:List AtmT,(∀ x ∈ l,okAt x)∧l.length≤300∧Ev (fun k=>qqw.f k s) l:=by
 obtain⟨v,p1,h1',e,v0,v1,g1,g2⟩:=cur_pick s hs 0 0 8 (by omega) (by omega)
 obtain⟨l,l1,l2,l3⟩:=draw_l0 s hs v.toNat [] p1 h1' (fun x hx=>absurd hx List.not_mem_nil) (by simp;omega) (by omega) (by omega)
 refine⟨l,l1,l2,?_⟩
 have hv:(v.toNat:Int)=v:=by omega
 rw[hv] at l3
 simp only[qqw.f,newCur.f,Option.bind_some,e]
 exact l3
end Go.Proofs.Ytccbjchlcelkgaa.Pr
namespace Go.Proofs.Ytccbjchlcelkgaa.Pure
open Go.RowKit Go.Proofs.Ytccbjchlcelkgaa.Read Go.Proofs.YtccbjchlcelkgaaW.PrintWords Go.Proofs.Ytccbjchlcelkgaa.Pr
set_option linter.unusedVariables false
set_option linter.unusedSimpArgs false
theorem zAtoms_l0 (l:List AtmT) (hn:l.length≤1000) (d:Nat):∀ i:Nat,i + d=l.length→Ev (fun k=>qqj.l0 k l l (l.length:Int) (i:Int)) true:=by
 induction d with
 | zero =>
  intro i hi
  obtain rfl:i=l.length:=by omega
  refine Ev.upZ ?_
  simp only[qqj.l0,if_neg (Int.lt_irrefl _)]
  exact Ev.now _
 | succ d ih =>
  intro i hi
  have e2:wrap64 ((i:Int) + 1)=((i + 1:Nat):Int):=by rw[w64 (by omega) (by omega)];rfl
  refine Ev.upZ ?_
  simp only[qqj.l0,if_pos (show(i:Int) < (l.length:Int) by omega),if_pos (Int.natCast_nonneg i),beq_self_eq_true,Bool.not_true,Bool.or_self,if_neg (show ¬ (false=true) by decide),e2]
  exact ih (i + 1) (by omega)
theorem zAtoms_same (l:List AtmT) (hn:l.length≤1000):Ev (fun k=>qqj.f k l l) true:=by
 simp only[qqj.f,if_true]
 exact zAtoms_l0 l hn l.length 0 (by omega)
theorem zTexts_none:Ev (fun k=>qqk.f k [] []) true:=by
 simp only[qqk.f,if_true]
 refine Ev.upZ ?_
 simp only[qqk.l0,List.length_nil,if_neg (show ¬ ((0:Nat):Int) < ((0:Nat):Int) by decide),if_neg (show ¬ (0:Int) < ((0:Nat):Int) by decide)]
 exact Ev.now _
theorem zValue_same (c:Int) (s:List AtmT) (hn:s.length≤1000):Ev (fun k=>qqv.f k c 0 0 ⟨#[]⟩ ⟨#[]⟩ s [] c 0 0 ⟨#[]⟩ ⟨#[]⟩ s []) true:=by
 simp only[qqv.f,if_true,beq_self_eq_true,Bool.and_self]
 refine Ev.bind (zAtoms_same s hn) ?_
 simp only[if_true]
 exact Ev.bind zTexts_none (Ev.now _)
theorem setR_cases (l:List AtmT):(allGood l∧(setL l).length≤50∧setR l=setV (setL l))∨setR l=noVal:=by
 by_cases hg:allGood l
 ·rw[setR_good hg]
  by_cases h50:(setL l).length≤50
  ·exact .inl ⟨hg,h50,if_pos h50⟩
  ·exact .inr (if_neg h50)
 ·exact .inr (setR_bad hg)
theorem setR_of {l m:List AtmT} (hg:∀ x ∈ l,goodA x=true) (h50:(setL l).length≤50) (hm:∀ x,x ∈ m ↔ x ∈ l) (hn:m.length≤1000):setR m=setV (setL l):=by
 have hs:=setL_same hm
 rw[setR_good ⟨hn,fun x hx=>hg x ((hm x).1 hx)⟩,hs,if_pos h50]
theorem sets_l0 (l:List AtmT) (hn:l.length≤400) (hok:∀ x ∈ l,okAt x) (hg:∀ x ∈ l,goodA x=true) (h50:(setL l).length≤50) (d:Nat):∀ (i:Nat) (acc:List AtmT),i + d=l.length→acc.length=2 * i→(∀ x ∈ acc,x ∈ l)→(∀ j (hj:j < l.length),j < i→l[j] ∈ acc) →
  Ev (fun k=>qqz.l0 k l acc (l.length:Int) (i:Int) 2 0 0 ⟨#[]⟩ ⟨#[]⟩ (setL l) []) true:=by
 induction d with
 | zero =>
  intro i acc hi hl hin hall
  obtain rfl:i=l.length:=by omega
  have hm:∀ x,x ∈ acc ↔ x ∈ l:=fun x=>⟨hin x,fun hx=>by
   obtain⟨j,hj,rfl⟩:=List.getElem_of_mem hx
   exact hall j hj hj⟩
  have h1:=implSetOf_ev acc (fun x hx=>hok x (hin x hx))
  rw[setR_of hg h50 hm (by omega)] at h1
  have h2:=implSetOf_ev (setL l) (fun x hx=>hok x ((setL_mem l x).1 hx))
  rw[setR_of hg h50 (setL_mem l) (by omega)] at h2
  have hz:=zValue_same 2 (setL l) (by omega)
  refine Ev.upZ ?_
  simp only[qqz.l0,if_neg (Int.lt_irrefl _)]
  refine Ev.bind h1 ?_
  refine Ev.bind hz ?_
  simp only[if_true]
  refine Ev.bind (goodSet_ev (setL l) h50 (setL_rises l) (fun x hx=>hg x ((setL_mem l x).1 hx)) (fun x hx=>hok x ((setL_mem l x).1 hx))) ?_
  simp only[if_true]
  refine Ev.bind h2 ?_
  exact Ev.bind hz (Ev.now _)
 | succ d ih =>
  intro i acc hi hl hin hall
  have hlt:i < l.length:=by omega
  have hlt2:l.length - 1 - i < l.length:=by omega
  have e2:wrap64 ((i:Int) + 1)=((i + 1:Nat):Int):=by rw[w64 (by omega) (by omega)];rfl
  have e3:wrap64 ((wrap64 ((l.length:Int) - 1)) - (i:Int))=((l.length - 1 - i:Nat):Int):=by
   rw[w64 (n:=(l.length:Int) - 1) (by omega) (by omega),w64 (by omega) (by omega)];omega
  have hn2:=ih (i + 1) (acc ++ [l[l.length - 1 - i],l[i]]) (by omega) (by simp;omega) (fun x hx=>by
   rcases List.mem_append.1 hx with hx|hx
   ·exact hin x hx
   ·rcases List.mem_cons.1 hx with rfl|hx
    ·exact List.getElem_mem _
    ·rw[List.mem_singleton.1 hx];exact List.getElem_mem _) (fun j hj hji=>by
   by_cases e:j=i
   ·subst e;exact List.mem_append_right _ (by simp)
   ·exact List.mem_append_left _ (hall j hj (by omega)))
  refine Ev.upZ ?_
  simp only[qqz.l0,if_pos (show(i:Int) < (l.length:Int) by omega),e3,if_pos (Int.natCast_nonneg (l.length - 1 - i)),if_pos (show((l.length - 1 - i:Nat):Int) < (l.length:Int) by omega),if_pos (Int.natCast_nonneg i),Option.bind_some,rdA_nat hlt,rdA_nat hlt2,e2,List.length_cons,List.length_nil,
   if_pos (show acc.length + (0 + 1 + 1) < 2932031007402 by omega)]
  exact hn2
theorem FnSets:qqz.Pure:=by
 intro s hs
 apply Ev.rounds
 simp only[qqz.f]
 by_cases hbig:(s.length:Int) > 1048576
 ·simp only[if_pos hbig];exact Ev.now _
 simp only[if_neg hbig]
 obtain⟨l,hok,hlen,hd⟩:=drawSet_ev s hs
 refine Ev.bind hd ?_
 refine Ev.bind (implSetOf_ev l hok) ?_
 refine Ev.bind (specSetOf_ev l hok) ?_
 rcases setR_cases l with ⟨hg,h50,e⟩|e
 ·rw[e]
  refine Ev.bind (zValue_same 2 (setL l) (by omega)) ?_
  show Ev (fun k=>if true=true then(if (2:Int)=0 then some true else if (l.length:Int) > 400 then some true else qqz.l0 k l [] (l.length:Int) 0 2 0 0 ⟨#[]⟩ ⟨#[]⟩ (setL l) []) else none) true
  simp only[if_true,if_neg (show ¬ (2:Int)=0 by decide),if_neg (show ¬ (l.length:Int) > 400 by omega)]
  exact sets_l0 l (by omega) hok hg.2 h50 l.length 0 [] (by omega) rfl (fun x hx=>absurd hx List.not_mem_nil) (fun j hj h=>absurd h (Nat.not_lt_zero _))
 ·rw[e]
  refine Ev.bind (zValue_same 0 [] (by simp)) ?_
  show Ev (fun k=>if true=true then(if (0:Int)=0 then some true else _) else none) true
  simp only[if_true]
  exact Ev.now _
end Go.Proofs.Ytccbjchlcelkgaa.Pure
namespace Go.Proofs.Ytccbjchlcelkgaa.fnSets
open Go.ChangeShapes Go.WideShapes Go.ChangeAt Go.RowKit Go.Proofs.Ytccbjchlcelkgaa.Read Go.Proofs.YtccbjchlcelkgaaW.PrintWords Go.Proofs.Ytccbjchlcelkgaa.Pr
open Go.ChangeMaps (open_string shut_string)
set_option linter.unusedVariables false
theorem own:ownKnob Try.prog.godebug=none:=by kernel_rfl
theorem laidOut:laidOutB Try.prog=true:=by kernel_rfl
theorem lifted (os:Os) (started:os.Started) (H:Type) (enc:TypeId × Value→H) :
  ReturnsInHanded {} Try.checked os 8 .any (Rows.fnSetsSpec.pre6 enc Try.prog Try.f8 Rows.fnSetsRow.domain false) (Rows.fnSetsSpec.post enc Try.prog Try.f8 false true false false):=by
 refine returnsInHanded_of_change (C:=Try.checked) own started (by kernel_rfl) Try.func8
  (ChangeSpec.witness6 (enc:=enc) (C:=Try.checked) false ⟨#[],#[.slice none 0 0],[]⟩ 8 (by kernel_rfl) (by kernel_rfl) (by kernel_rfl) (by kernel_rfl)) ?_
 intro W base args ds gs before hval0 hW hcnd _
 have hval:∀ (j:Nat) t v,Try.f8.params[j]? = some t→args[j]? = some v→Value.okWide Try.prog W .any base t v:=hval0
 have hW':=hW
 obtain⟨p,q,hA0,hV,rfl,hfz,hnd⟩:=hW
 have hA:DataW.TrodAll enc Try.prog W 0 (fun _=>true) true Try.f8.params.toList args.toList ds p:=hA0
 rw[Try.params8] at hA hval
 obtain⟨v0,vs0,d0,ds0,p0,q0,hargs,rfl,rfl,h0,r0⟩:=trodAll_cons hA
 obtain⟨rfl,rfl,rfl⟩:=trodAll_nil r0
 obtain rfl:args = #[v0]:=by cases args;simp_all
 obtain⟨rfl,rfl⟩:=trodVars_none hV
 have lt0:∀ x ∈ p0,x.block < W.heap.size:=by obtain⟨m,hm⟩:=h0;exact DataW.trod_lt m _ _ _ hm
 have bk0:=fun {W':World} (bel:Below W.heap.size W W')=>Below.trod laidOut (by kernel_rfl) (of_decide_eq_true (by kernel_rfl)) h0 bel lt0
 obtain⟨A0,c0,l0,rfl,hl0,hC0,o0⟩:=arg_slice Try.underlying22 (tellsL Try.underlying22 (by kernel_rfl) (tellsB Try.underlying5 (by kernel_rfl))) (hval 0 22 v0 rfl rfl) h0
 obtain⟨k,hk⟩:=Pure.FnSets l0 o0
 refine(qqz.calls k _ _ l0 true W hC0 hl0 hk).mono fun e W' hpost=>?_
 obtain⟨he,hb⟩:=hpost
 have bel:Below W.heap.size W W':=hb
 subst he
 exact⟨_,rfl,_,_,_,[],_,[],hW',trodAll_mk1 (shut_bool Try.underlying4 _),(trodAll_cons_mk (bk0 bel) trodAll_mk0),rfl,bel.frame _,fun h=>by cases h⟩
theorem over:Rows.fnSetsRow.holds Try.pinned (OpenSpec.ofChange Rows.fnSetsSpec) :=
 OpenClaim.holds_of_wide 8 Try.f8 rfl rfl rfl rfl rfl rfl rfl ⟨rfl,rfl,rfl,rfl,rfl⟩ rfl rfl rfl rfl rfl (by kernel_rfl) Try.func8 (by kernel_rfl)
  (of_decide_eq_true (by kernel_rfl)) (by unfold Func.isWrapper;first|(rw[if_pos (by decide +kernel)];kernel_rfl)|(rw[if_neg (by decide +kernel)];exact⟨rfl,rfl⟩))
  (fun os started H enc _=>lifted os started H enc)
theorem proved:Rows.FnSetsSaid:=over
#print axioms proved
end Go.Proofs.Ytccbjchlcelkgaa.fnSets
namespace Go.Proofs.Ytccbjchlcelkgaa
theorem fnSets_holds:Rows.FnSetsSaid:=fnSets.proved
end Go.Proofs.Ytccbjchlcelkgaa
