/- The law FnExactAttenuate: whatever the input, the call returns true and the arguments read as before. No conditions. -/
import Derived.Test.YtnbbbjfjkhglhaaGreatDoorFullFnExactAttenuateF
import Derived.Laws.BitsLemmas
import Derived.Test.YtnbbbjfjkhglhaaGreatDoorRows
import Derived.Test.YtnbbbjfjkhglhaaGreatDoorCards
import Derived.Test.YtnbbbjfjkhglhaaGreatDoorTie
import Derived.WalkKit
import Derived.ProofKit
import Derived.OpenShut
import Derived.ShutString
import Derived.ChangeOld
import Derived.Below
import Derived.SevenTiedAt
import Derived.Stop.LaidErr
import Derived.Lib.LaidTab
import Derived.LaidMore
import Derived.OpenVars
import Derived.ChangeVars
set_option maxHeartbeats 8000000
set_option maxRecDepth 100000
open List renaming map_toArray → jq0, map_cons → jq1, map_nil → jq2, length_drop → jq3, length_take → jq4, setIfInBounds_toArray → jq5, set_cons_zero → jq6, set_cons_succ → jq7
open Option renaming bind_eq_some_iff → jq8
open Bool renaming eq_false_iff → jq9, true → Z, false → U
namespace Go.Proofs.YtnbbbjfjkhglhaaGreatDoor.Pr
open Go.RowKit Go.Proofs.YtnbbbjfjkhglhaaGreatDoor.Read Go.Proofs.YtnbbbjfjkhglhaaGreatDoorW.PrintWords
set_option linter.unusedVariables false
theorem Ev.upA {α:Type} {g:Nat→Option α} {r : α} (h:Ev (fun k=>g (k + 1)) r):Ev g r:=by
 obtain⟨n,h⟩:=h;refine⟨n + 1,fun k hk=>?_⟩;obtain⟨k,rfl⟩ : ∃ m,k=m + 1:=⟨k - 1,by omega⟩;exact h k (by omega)
theorem pow_le62 {n:Nat} (h:n≤62):(2:Int) ^ n≤4611686018427387904:=by
 have h2:(2:Nat) ^ n≤4611686018427387904:=Nat.pow_le_pow_right (show 0 < 2 by decide) h;have h3:((2 ^ n:Nat):Int)≤((4611686018427387904:Nat):Int):=Int.ofNat_le.2 h2;rw[Int.natCast_pow] at h3;exact h3
theorem pow_pos2 (n:Nat):(0:Int) < 2 ^ n:=Int.pow_pos (by decide)
theorem pow2_l0 (n:Nat) (hn:n≤62) (d:Nat):∀ (k j:Nat),j + d=n→d < k→qvw.l0 k (n:Int) (2 ^ j) (j:Int)=some (2 ^ n):=by
 induction d with
 | zero =>
  intro k j hj hk
  obtain⟨k,rfl⟩ : ∃ m,k=m + 1:=⟨k - 1,by omega⟩;obtain rfl:j=n:=by omega
  rw[qvw.l0,if_neg (by omega)]
 | succ d ih =>
  intro k j hj hk
  obtain⟨k,rfl⟩ : ∃ m,k=m + 1:=⟨k - 1,by omega⟩;have hp:=pow_le62 (n:=j + 1) (by omega);have h0:=pow_pos2 j;rw[Int.pow_succ] at hp;have e1:wrap64 ((2:Int) ^ j * 2)=2 ^ (j + 1):=by rw[w64 (by omega) (by omega),Int.pow_succ]
  have e2:wrap64 ((j:Int) + 1)=((j + 1:Nat):Int):=by rw[w64 (by omega) (by omega)];rfl
  rw[qvw.l0,if_pos (by omega),e1,e2];exact ih k (j + 1) (by omega) (by omega)
theorem pow2_eq (n:Nat) (hn:n≤62) (k:Nat) (hk:n < k):qvw.f k (n:Int)=some (2 ^ n):=pow2_l0 n hn n k 0 (by omega) hk
def blkOk (n:Int):Prop:=0≤n∧n % 64≤32∧n / 64 < 4294967296∧n / 64 % 2 ^ (32 - n % 64).toNat=0
instance (n:Int):Decidable (blkOk n):=by unfold blkOk;infer_instance
def noTexts (t ty:ByteArray):Bool:=decide (t.size=0) && decide (ty.size=0)
def goodAtom (k n:Int) (t ty:ByteArray):Bool :=
 if k=1 then noTexts t ty && decide (n=0∨n=1)
 else if k=2∨k=5 then noTexts t ty
 else if k=3 then decide (n=0∧ty.size=0) && (decide (t.size≤200) && prt t)
 else if k=4 then decide (n=0) && (goodName ty && (decide (1≤t.size∧t.size≤200) && prt t))
 else if k=6 then noTexts t ty && decide (blkOk n)
 else if k=7 then noTexts t ty && decide (-100000000000≤n∧n≤100000000000)
 else false
theorem nil_list {s:ByteArray} (h:s.size=0):s.toList=([]:List UInt8):=list_nil_size.2 h
theorem not_nil_list {s:ByteArray} (h:¬ s.size=0):¬ s.toList=([]:List UInt8):=fun e=>h (list_nil_size.1 e)
theorem bne_nil (s:ByteArray):(s.toList != ([]:List UInt8)) = !decide (s.size=0):=by
 by_cases h:s.size=0
 ·rw[nil_list h,decide_eq_true h];rfl
 ·rw[bne,beq_eq_false_iff_ne.2 (not_nil_list h),decide_eq_false h]
theorem beq_nil (s:ByteArray):(s.toList == ([]:List UInt8))=decide (s.size=0):=by
 by_cases h:s.size=0
 ·rw[nil_list h,decide_eq_true h];rfl
 ·rw[beq_eq_false_iff_ne.2 (not_nil_list h),decide_eq_false h]
theorem sGood_j1 (k n:Int) (t ty:ByteArray) (ht:t.size≤9223372036854775807) (hty:ty.size≤9223372036854775807) (hn:k=6→okI n) (h3:k≠1) (hA:k≠3→k≠4→t.size=0) (hB:k≠4→ty.size=0) (b:Bool) (hb:b=decide (k=2∨k=5)):Ev (fun f=>qkk.j1 f k b k n t ty) (goodAtom k n t ty):=by
 refine Ev.upA ?_;simp only[qkk.j1,hb];unfold goodAtom;rw[if_neg h3]
 by_cases c1:k=2∨k=5
 ·simp only[decide_eq_true c1,if_true,if_pos c1,noTexts];rw[hA (by omega) (by omega),hB (by omega)];exact Ev.now _
 simp only[decide_eq_false c1,Bool.false_eq_true,if_false,if_neg c1]
 by_cases c3:k=3
 ·simp only[if_pos c3]
  by_cases hz:n=0
  ·simp only[if_pos hz,decide_eq_true (show n=0∧ty.size=0 from⟨hz,hB (by omega)⟩),Bool.true_and]
   by_cases hs:t.size≤200
   ·simp only[if_pos (show(t.size:Int)≤200 by omega),decide_eq_true hs,Bool.true_and];exact Ev.bind ⟨t.size + 1,fun k hk=>l1Printed_eq t ht k (by omega)⟩ (Ev.now _)
   ·simp only[if_neg (show ¬ (t.size:Int)≤200 by omega),decide_eq_false hs,Bool.false_and];exact Ev.now _
  ·simp only[if_neg hz,decide_eq_false (show ¬ (n=0∧ty.size=0) from fun h=>hz h.1),Bool.false_and];exact Ev.now _
 simp only[if_neg c3]
 by_cases c4:k=4
 ·simp only[if_pos c4]
  by_cases hz:n=0
  ·simp only[if_pos hz,decide_eq_true hz,Bool.true_and];refine Ev.bind (specName_ev ty hty) ?_
   by_cases hg:goodName ty=true
   ·simp only[hg,if_true,Bool.true_and]
    by_cases h1 : 1≤t.size
    ·simp only[if_pos (show(t.size:Int) ≥ 1 by omega)]
     by_cases hs:t.size≤200
     ·simp only[if_pos (show(t.size:Int)≤200 by omega),decide_eq_true (show 1≤t.size∧t.size≤200 from⟨h1,hs⟩),Bool.true_and];exact Ev.bind ⟨t.size + 1,fun k hk=>l1Printed_eq t ht k (by omega)⟩ (Ev.now _)
     ·simp only[if_neg (show ¬ (t.size:Int)≤200 by omega),decide_eq_false (show ¬ (1≤t.size∧t.size≤200) from fun h=>hs h.2),Bool.false_and];exact Ev.now _
    ·simp only[if_neg (show ¬ (t.size:Int) ≥ 1 by omega),decide_eq_false (show ¬ (1≤t.size∧t.size≤200) from fun h=>h1 h.1),Bool.false_and];exact Ev.now _
   ·simp only[eq_false_of_ne_true hg,Bool.false_eq_true,if_false,Bool.false_and];exact Ev.now _
  ·simp only[if_neg hz,decide_eq_false hz,Bool.false_and];exact Ev.now _
 simp only[if_neg c4];have hNT:noTexts t ty=true:=by unfold noTexts;rw[hA c3 c4,hB c4];rfl
 rw[hNT,Bool.true_and,Bool.true_and]
 by_cases c6:k=6
 ·simp only[if_pos c6];have hi:=hn c6;have hi1 : -9223372036854775808≤n:=hi.1;have hi2:n≤9223372036854775807:=by have:=hi.2;omega
  by_cases h0:n < 0
  ·simp only[if_pos h0,decide_eq_false (show ¬ blkOk n from fun h=>by have:=h.1;omega)];exact Ev.now _
  simp only[if_neg h0];have e32:Ev (fun f=>qvw.f f 32) 4294967296:=⟨40,fun k hk=>pow2_eq 32 (by omega) k (by omega)⟩;refine Ev.bind e32 ?_;have ed:wrap64 (Int.tdiv n 64)=n / 64:=by rw[Int.tdiv_eq_ediv_of_nonneg (by omega),w64 (by omega) (by omega)]
  have em:Int.tmod n 64=n % 64:=Int.tmod_eq_emod_of_nonneg (by omega);have e1:wrap64 ((4294967296:Int) - 1)=4294967295:=w64 (by omega) (by omega);simp only[ed,em,e1]
  by_cases h1:n / 64 > 4294967295
  ·simp only[if_pos h1,decide_eq_false (show ¬ blkOk n from fun h=>by have:=h.2.2.1;omega)];exact Ev.now _
  by_cases h2:n % 64 > 32
  ·simp only[if_neg h1,if_pos h2,decide_eq_false (show ¬ blkOk n from fun h=>by have:=h.2.1;omega)];exact Ev.now _
  simp only[if_neg h1,if_neg h2];have ew:wrap64 (32 - n % 64)=((32 - n % 64).toNat:Int):=by rw[w64 (by omega) (by omega)];omega
  have hlt:(32 - n % 64).toNat≤32:=by omega
  have eb:Ev (fun f=>qvz.f f k n t ty) (n / 64,2 ^ (32 - n % 64).toNat):=by
   simp only[qvz.f,ed,em,ew];exact Ev.bind ⟨40,fun k hk=>pow2_eq _ (by omega) k (by omega)⟩ (Ev.now _)
  refine Ev.bind eb ?_;have hp:=pow_pos2 (32 - n % 64).toNat;have emod:Int.tmod (n / 64) (2 ^ (32 - n % 64).toNat)=n / 64 % 2 ^ (32 - n % 64).toNat:=Int.tmod_eq_emod_of_nonneg (by omega);simp only[if_neg (show ¬ (2:Int) ^ (32 - n % 64).toNat=0 by omega),emod]
  have:(n / 64 % 2 ^ (32 - n % 64).toNat == 0)=decide (blkOk n):=by
   rw[Bool.eq_iff_iff,beq_iff_eq,decide_eq_true_iff];exact⟨fun h=>⟨by omega,by omega,by omega,h⟩,fun h=>h.2.2.2⟩
  rw[this];exact Ev.now _
 simp only[if_neg c6]
 by_cases c7:k=7
 ·simp only[if_pos c7]
  by_cases h1:n ≥ -100000000000
  ·simp only[if_pos h1];rw[decide_eq_decide.2 (show(n≤100000000000) ↔ (-100000000000≤n∧n≤100000000000) by omega)];exact Ev.now _
  ·simp only[if_neg h1];rw[decide_eq_false (show ¬ (-100000000000≤n∧n≤100000000000) by omega)];exact Ev.now _
 ·simp only[if_neg c7];exact Ev.now _
theorem good_bad {k n:Int} {t ty:ByteArray} (h:(k≠3∧k≠4∧t.size≠0)∨(k≠4∧ty.size≠0)):goodAtom k n t ty=false:=by
 unfold goodAtom
 have hN:k≠3→k≠4→noTexts t ty=false:=fun h3 h4=>by
  unfold noTexts
  rcases h with h|h
  ·rw[decide_eq_false h.2.2,Bool.false_and]
  ·rw[decide_eq_false h.2,Bool.and_false]
 by_cases c1:k=1
 ·rw[if_pos c1,hN (by omega) (by omega),Bool.false_and]
 rw[if_neg c1]
 by_cases c2:k=2∨k=5
 ·rw[if_pos c2,hN (by omega) (by omega)]
 rw[if_neg c2]
 by_cases c3:k=3
 ·rw[if_pos c3,decide_eq_false (show ¬ (n=0∧ty.size=0) from fun g=>h.elim (fun h=>h.1 c3) (fun h=>h.2 g.2)),Bool.false_and]
 rw[if_neg c3]
 by_cases c4:k=4
 ·rcases h with h|h
  ·exact absurd c4 h.2.1
  ·exact absurd c4 h.1
 rw[if_neg c4,hN c3 c4,Bool.false_and,Bool.false_and];simp
theorem specGoodAtom_ev (k n:Int) (t ty:ByteArray) (ht:t.size≤9223372036854775807) (hty:ty.size≤9223372036854775807) (hn:k=6→okI n):Ev (fun f=>qkk.f f k n t ty) (goodAtom k n t ty):=by
 have hbad:goodAtom k n t ty=false→Ev (fun f=>qkk.j0 f true k n t ty) (goodAtom k n t ty):=fun h=>by
  refine Ev.upA ?_;simp only[qkk.j0,if_true,h];exact Ev.now _
 have hgo:(k≠3→k≠4→t.size=0)→(k≠4→ty.size=0)→Ev (fun f=>qkk.j0 f false k n t ty) (goodAtom k n t ty):=fun hA hB=>by
  refine Ev.upA ?_;simp only[qkk.j0,Bool.false_eq_true,if_false]
  by_cases c1:k=1
  ·simp only[if_pos c1];have hNT:noTexts t ty=true:=by unfold noTexts;rw[hA (by omega) (by omega),hB (by omega)];rfl
   rw[goodAtom,if_pos c1,hNT,Bool.true_and]
   by_cases hz:n=0
   ·simp only[if_pos hz,decide_eq_true (show n=0∨n=1 from .inl hz)];exact Ev.now _
   ·simp only[if_neg hz]
    have:(n == 1)=decide (n=0∨n=1):=by
     rw[Bool.eq_iff_iff,beq_iff_eq,decide_eq_true_iff]
     omega
    rw[this];exact Ev.now _
  simp only[if_neg c1]
  by_cases c2:k=2
  ·simp only[if_pos c2];refine sGood_j1 k n t ty ht hty hn c1 hA hB _ ?_;rw[Bool.eq_iff_iff,beq_iff_eq,decide_eq_true_iff];omega
  ·simp only[if_neg c2];refine sGood_j1 k n t ty ht hty hn c1 hA hB _ ?_;rw[Bool.eq_iff_iff,beq_iff_eq,decide_eq_true_iff];omega
 simp only[qkk.f,bne_nil]
 by_cases c3:k=3
 ·simp only[if_pos c3,if_neg (show ¬ k=4 by omega)]
  by_cases hz:ty.size=0
  ·rw[decide_eq_true hz];exact hgo (fun h=>absurd c3 h) (fun _=>hz)
  ·rw[decide_eq_false hz];exact hbad (good_bad (.inr ⟨by omega,hz⟩))
 simp only[if_neg c3]
 by_cases c4:k=4
 ·simp only[if_pos c4];exact hgo (fun _ h=>absurd c4 h) (fun h=>absurd c4 h)
 simp only[if_neg c4]
 by_cases hz:t.size=0
 ·simp only[if_pos (nil_list hz)]
  by_cases hz2:ty.size=0
  ·rw[decide_eq_true hz2];exact hgo (fun _ _=>hz) (fun _=>hz2)
  ·rw[decide_eq_false hz2];exact hbad (good_bad (.inr ⟨c4,hz2⟩))
 ·simp only[if_neg (not_nil_list hz)];exact hbad (good_bad (.inl ⟨c3,c4,hz⟩))
theorem shl_fin:∀ e:Fin 33,shl .i64 1 ((e.val:Nat):Int)=2 ^ e.val:=by decide +kernel
theorem iGood_j1 (k n:Int) (t ty:ByteArray) (ht:t.size≤9223372036854775807) (hty:ty.size≤9223372036854775807) (hn:k=6→okI n) (h3:k≠1) (b:Bool) (hb:b=decide (k=2∨k=5)):Ev (fun f=>vx.j1 f (noTexts t ty) k b k n t ty) (goodAtom k n t ty):=by
 refine Ev.upA ?_;simp only[vx.j1,hb];unfold goodAtom;rw[if_neg h3]
 by_cases c1:k=2∨k=5
 ·simp only[decide_eq_true c1,if_true,if_pos c1];exact Ev.now _
 simp only[decide_eq_false c1,Bool.false_eq_true,if_false,if_neg c1]
 by_cases c3:k=3
 ·simp only[if_pos c3]
  by_cases hz:n=0
  ·simp only[if_pos hz]
   by_cases hz2:ty.size=0
   ·simp only[if_pos (nil_list hz2),decide_eq_true (show n=0∧ty.size=0 from⟨hz,hz2⟩),Bool.true_and];refine Ev.bind ⟨t.size + 2,fun k hk=>yprinted_eq t 0 200 ht k (by omega)⟩ ?_;rw[decide_eq_true (show(0:Int)≤(t.size:Int) by omega),Bool.true_and,decide_eq_decide.2 (show((t.size:Int)≤200) ↔ t.size≤200 by omega)];exact Ev.now _
   ·simp only[if_neg (not_nil_list hz2),decide_eq_false (show ¬ (n=0∧ty.size=0) from fun h=>hz2 h.2),Bool.false_and];exact Ev.now _
  ·simp only[if_neg hz,decide_eq_false (show ¬ (n=0∧ty.size=0) from fun h=>hz h.1),Bool.false_and];exact Ev.now _
 simp only[if_neg c3]
 by_cases c4:k=4
 ·simp only[if_pos c4]
  by_cases hz:n=0
  ·simp only[if_pos hz,decide_eq_true hz,Bool.true_and];refine Ev.bind (implName_ev ty hty) ?_
   by_cases hg:goodName ty=true
   ·simp only[hg,if_true,Bool.true_and];refine Ev.bind ⟨t.size + 2,fun k hk=>yprinted_eq t 1 200 ht k (by omega)⟩ ?_;rw[← Bool.decide_and,decide_eq_decide.2 (show((1:Int)≤(t.size:Int)∧(t.size:Int)≤200) ↔ (1≤t.size∧t.size≤200) by omega)];exact Ev.now _
   ·simp only[eq_false_of_ne_true hg,Bool.false_eq_true,if_false,Bool.false_and];exact Ev.now _
  ·simp only[if_neg hz,decide_eq_false hz,Bool.false_and];exact Ev.now _
 simp only[if_neg c4]
 rcases hNT:noTexts t ty with _|_
 ·simp only[Bool.false_eq_true,if_false,Bool.false_and];rw[show(if k=6 then some false else if k=7 then some false else some false)=some false by split <;> (try split) <;> rfl,show(if k=6 then false else if k=7 then false else false)=false by split <;> (try split) <;> rfl];exact Ev.now _
 simp only[if_true,Bool.true_and]
 by_cases c6:k=6
 ·simp only[if_pos c6];have hi:=hn c6;have hi1 : -9223372036854775808≤n:=hi.1;have hi2:n≤9223372036854775807:=by have:=hi.2;omega
  by_cases h0:n < 0
  ·simp only[if_pos h0,decide_eq_false (show ¬ blkOk n from fun h=>by have:=h.1;omega)];exact Ev.now _
  simp only[if_neg h0];have ed:wrap64 (Int.tdiv n 64)=n / 64:=by rw[Int.tdiv_eq_ediv_of_nonneg (by omega),w64 (by omega) (by omega)]
  have em:Int.tmod n 64=n % 64:=Int.tmod_eq_emod_of_nonneg (by omega);simp only[ed,em]
  by_cases h2:n % 64≤32
  case neg =>
   simp only[if_neg h2,decide_eq_false (show ¬ blkOk n from fun h=>h2 h.2.1)];exact Ev.now _
  by_cases h1:n / 64 < 4294967296
  case neg =>
   simp only[if_pos h2,if_neg h1,decide_eq_false (show ¬ blkOk n from fun h=>h1 h.2.2.1)];exact Ev.now _
  have ew:wrap64 (32 - n % 64)=((32 - n % 64).toNat:Int):=by rw[w64 (by omega) (by omega)];omega
  have hlt:(32 - n % 64).toNat < 33:=by omega
  have esh:=shl_fin ⟨(32 - n % 64).toNat,hlt⟩;have hp:=pow_pos2 (32 - n % 64).toNat;have emod:Int.tmod (n / 64) (2 ^ (32 - n % 64).toNat)=n / 64 % 2 ^ (32 - n % 64).toNat:=Int.tmod_eq_emod_of_nonneg (by omega);simp only[if_pos h2,if_pos h1,ew,if_pos (Int.natCast_nonneg _),esh,if_neg (show ¬ (2:Int) ^ (32 - n % 64).toNat=0 by omega),emod]
  have:(n / 64 % 2 ^ (32 - n % 64).toNat == 0)=decide (blkOk n):=by
   rw[Bool.eq_iff_iff,beq_iff_eq,decide_eq_true_iff];exact⟨fun h=>⟨by omega,by omega,by omega,h⟩,fun h=>h.2.2.2⟩
  rw[this];exact Ev.now _
 simp only[if_neg c6]
 by_cases c7:k=7
 ·simp only[if_pos c7]
  by_cases h1:n ≥ -100000000000
  ·simp only[if_pos h1];rw[decide_eq_decide.2 (show(n≤100000000000) ↔ (-100000000000≤n∧n≤100000000000) by omega)];exact Ev.now _
  ·simp only[if_neg h1];rw[decide_eq_false (show ¬ (-100000000000≤n∧n≤100000000000) by omega)];exact Ev.now _
 ·simp only[if_neg c7];exact Ev.now _
theorem implGoodAtom_ev (k n:Int) (t ty:ByteArray) (ht:t.size≤9223372036854775807) (hty:ty.size≤9223372036854775807) (hn:k=6→okI n):Ev (fun f=>vx.f f k n t ty) (goodAtom k n t ty):=by
 have hj:Ev (fun f=>vx.j0 f (noTexts t ty) k n t ty) (goodAtom k n t ty):=by
  refine Ev.upA ?_;simp only[vx.j0]
  by_cases c1:k=1
  ·simp only[if_pos c1];rw[goodAtom,if_pos c1]
   rcases hNT:noTexts t ty with _|_
   ·simp only[Bool.false_eq_true,if_false,Bool.false_and];exact Ev.now _
   simp only[if_true,Bool.true_and]
   by_cases hz:n=0
   ·simp only[if_pos hz,decide_eq_true (show n=0∨n=1 from .inl hz)];exact Ev.now _
   ·simp only[if_neg hz]
    have:(n == 1)=decide (n=0∨n=1):=by
     rw[Bool.eq_iff_iff,beq_iff_eq,decide_eq_true_iff]
     omega
    rw[this];exact Ev.now _
  simp only[if_neg c1]
  by_cases c2:k=2
  ·simp only[if_pos c2];refine iGood_j1 k n t ty ht hty hn c1 _ ?_;rw[Bool.eq_iff_iff,beq_iff_eq,decide_eq_true_iff];omega
  ·simp only[if_neg c2];refine iGood_j1 k n t ty ht hty hn c1 _ ?_;rw[Bool.eq_iff_iff,beq_iff_eq,decide_eq_true_iff];omega
 simp only[vx.f,beq_nil]
 by_cases hz:t.size=0
 ·simp only[if_pos (nil_list hz)];rw[show decide (ty.size=0)=noTexts t ty by unfold noTexts;rw[decide_eq_true hz,Bool.true_and]];exact hj
 ·simp only[if_neg (not_nil_list hz)];rw[show false=noTexts t ty by unfold noTexts;rw[decide_eq_false hz,Bool.false_and]];exact hj
def intsOf (l:List UInt8):List Int:=l.map fun b=>(b.toNat:Int)
theorem intsOf_append (a b:List UInt8):intsOf (a ++ b)=intsOf a ++ intsOf b:=by simp[intsOf]
theorem strOf_ints (l:List UInt8):strOfNums (intsOf l) = ⟨l.toArray⟩:=by
 unfold strOfNums intsOf
 apply ByteArray.ext
 show(List.map _ (List.map _ l)).toArray=l.toArray
 rw[List.map_map]
 congr 1
 conv=>rhs;rw[← List.map_id l]
 apply List.map_congr_left
 intro b _
 show UInt8.ofNat ((b.toNat:Int)).toNat=b
 rw[Int.toNat_natCast,UInt8.ofNat_toNat]
theorem escL_le (l:List UInt8):(l.flatMap escU).length≤2 * l.length:=by
 induction l with
 | nil=>exact Nat.zero_le _
 | cons b l ih=>have:=escU_len b;rw[List.flatMap_cons,List.length_append,List.length_cons];omega
theorem btq_list (s:ByteArray) (i:Nat) (h:i < s.data.toList.length):bt s (i:Int)=((s.data.toList[i]).toNat:Int):=by
 have h':i < s.size:=by rw[data_length] at h;exact h
 exact(bt_at s (i:Int) h').symm
theorem quoted_l0 (s:ByteArray) (hs:s.size≤1000000) (d:Nat):∀ (k i:Nat),i + d=s.size→d < k →
  qwq.l0 k s (intsOf (34 :: (s.data.toList.take i).flatMap escU)) (i:Int)=some (quoteB s):=by
 induction d with
 | zero =>
  intro k i hi hk
  obtain⟨k,rfl⟩ : ∃ m,k=m + 1:=⟨k - 1,by omega⟩;obtain rfl:i=s.size:=by omega
  have hl:=escL_le s.data.toList;rw[data_length] at hl;rw[qwq.l0,if_neg (by omega),List.take_of_length_le (by rw[data_length];exact Nat.le_refl _),if_pos (by simp only[intsOf,List.length_map,List.length_cons];omega)];rw[show([34]:List Int)=intsOf [34] from rfl,← intsOf_append,strOf_ints]
  congr 1
 | succ d ih =>
  intro k i hi hk
  obtain⟨k,rfl⟩ : ∃ m,k=m + 1:=⟨k - 1,by omega⟩;have hil:i < s.data.toList.length:=by rw[data_length];omega
  have hl:=escL_le (s.data.toList.take i);rw[jq4,data_length] at hl;have e2:wrap64 ((i:Int) + 1)=((i + 1:Nat):Int):=by rw[w64 (by omega) (by omega)];rfl
  have hstep:intsOf (34 :: (s.data.toList.take (i + 1)).flatMap escU)=intsOf (34 :: (s.data.toList.take i).flatMap escU) ++ intsOf (escU s.data.toList[i]):=by
   rw[List.take_succ_eq_append_getElem hil,List.flatMap_append,← intsOf_append];simp
  have ih2:=ih k (i + 1) (by omega) (by omega);rw[hstep] at ih2;have hlen:(intsOf (34 :: (s.data.toList.take i).flatMap escU)).length≤3000000:=by simp only[intsOf,List.length_map,List.length_cons];omega
  rw[qwq.l0,if_pos (by omega),if_pos (by omega),btq_list s i hil,e2];obtain⟨u,eu⟩ : ∃ u,u=s.data.toList[i]:=⟨_,rfl⟩;obtain⟨X,eX⟩ : ∃ X,X=intsOf (34 :: (s.data.toList.take i).flatMap escU):=⟨_,rfl⟩;rw[← eu,← eX] at ih2;rw[← eX] at hlen;rw[← eu,← eX]
  by_cases h34:(u.toNat:Int)=34
  ·have hu:u=34:=UInt8.toNat_inj.1 (show u.toNat=34 by omega);rw[hu] at ih2 ⊢;rw[show intsOf (escU 34)=[92,34] from rfl] at ih2;rw[if_pos (by rfl),if_pos (by omega),Option.bind_some,if_pos (by rw[List.length_append,List.length_singleton];omega),List.append_assoc];exact ih2
  ·by_cases h92:(u.toNat:Int)=92
   ·have hu:u=92:=UInt8.toNat_inj.1 (show u.toNat=92 by omega);rw[hu] at ih2 ⊢;rw[show intsOf (escU 92)=[92,92] from rfl] at ih2;rw[if_neg (by decide),if_pos (by rfl),if_pos (by omega),Option.bind_some,if_pos (by rw[List.length_append,List.length_singleton];omega),List.append_assoc];exact ih2
   ·have hn:¬ (u=34∨u=92):=fun h=>h.elim (fun e=>h34 (by rw[e];rfl)) (fun e=>h92 (by rw[e];rfl))
    have he:intsOf (escU u)=[(u.toNat:Int)]:=by unfold escU;rw[if_neg hn];rfl
    rw[he] at ih2;rw[if_neg h34,if_neg h92,if_pos (by omega)];exact ih2
theorem l1Quoted_ev (s:ByteArray) (hs:s.size≤1000000):Ev (fun k=>qwq.f k s) (quoteB s) :=
 ⟨s.size + 1,fun k hk=>quoted_l0 s hs s.size k 0 (by omega) (by omega)⟩
theorem yquote_eq (s:ByteArray) (hs:s.size≤1000000):xw.f s=some (quoteB s):=by
 unfold xw.f;rw[if_pos hs]
theorem quoteB_le (s:ByteArray):(quoteB s).size≤2 * s.size + 2:=by
 have h:=escL_le s.data.toList;rw[data_length] at h;unfold quoteB;rw[ByteArray.size_append,ByteArray.size_append];have e:(escB s).size=(s.data.toList.flatMap escU).length:=rfl;rw[e,show(⟨#[34]⟩ : ByteArray).size=1 from rfl]
 omega
def digS (d:Nat):ByteArray:=⟨#[UInt8.ofNat (48 + d)]⟩
theorem dig_fin:∀ d:Fin 10,(strOfNums [((48 + (d.val:Int))) % 256]).data=(digS d.val).data:=by decide +kernel
theorem dig_eq {d:Nat} (h:d < 10):strOfNums [((48 + (d:Int))) % 256]=digS d:=ByteArray.ext (dig_fin ⟨d,h⟩)
def decS (u:Nat):ByteArray:=⟨(Lib.decDigits u).toArray⟩
theorem decS_small {u:Nat} (h:u < 10):decS u=digS u:=by
 unfold decS digS;rw[Lib.decDigits,dif_pos h]
theorem decS_big {u:Nat} (h:¬ u < 10):decS u=decS (u / 10) ++ digS (u % 10):=by
 apply ByteArray.ext
 unfold decS digS;rw[Lib.decDigits,dif_neg h];simp
theorem digS_size (d:Nat):(digS d).size=1:=rfl
theorem size_l0 (u:Nat) : 0 < u→∃ K,∀ k,K≤k→∀ acc:ByteArray,acc.size + u≤9000000000000000000→qwz.l0 k (u:Int) acc=some (decS u ++ acc):=by
 induction u using Nat.strongRecOn with
 | _ u ih =>
  intro hu
  by_cases h:u < 10
  ·refine⟨2,fun k hk acc hacc=>?_⟩;obtain⟨k,rfl⟩ : ∃ m,k=m + 1 + 1:=⟨k - 2,by omega⟩;have e1:Int.tmod (u:Int) 10=(u:Int):=by rw[Int.tmod_eq_emod_of_nonneg (by omega)];omega
   have e2:Int.tdiv (u:Int) 10=0:=by rw[Int.tdiv_eq_ediv_of_nonneg (by omega)];omega
   have e3:wrap64 (48 + (u:Int))=48 + (u:Int):=w64 (by omega) (by omega);have e4:wrap64 0=0:=w64 (by omega) (by omega);simp only[qwz.l0,if_neg (show ¬ ((u:Int)=0) by omega),e1,e2,e3,e4,if_neg (show ¬ ((u:Int) < 0) by omega),Option.bind_some,dig_eq h,digS_size,if_pos (show 1 + acc.size≤9223372036854775807 by omega),if_true];rw[decS_small h]
  ·obtain⟨K,hK⟩:=ih (u / 10) (by omega) (by omega);refine⟨K + 1,fun k hk acc hacc=>?_⟩;obtain⟨k,rfl⟩ : ∃ m,k=m + 1:=⟨k - 1,by omega⟩;have e1:Int.tmod (u:Int) 10=((u % 10:Nat):Int):=by rw[Int.tmod_eq_emod_of_nonneg (by omega)];omega
   have e2:wrap64 (Int.tdiv (u:Int) 10)=((u / 10:Nat):Int):=by rw[Int.tdiv_eq_ediv_of_nonneg (by omega),w64 (by omega) (by omega)];omega
   have e3:wrap64 (48 + ((u % 10:Nat):Int))=48 + ((u % 10:Nat):Int):=w64 (by omega) (by omega);simp only[qwz.l0,if_neg (show ¬ ((u:Int)=0) by omega),e1,e2,e3,if_neg (show ¬ (((u % 10:Nat):Int) < 0) by omega),Option.bind_some,dig_eq (show u % 10 < 10 by omega),digS_size,if_pos (show 1 + acc.size≤9223372036854775807 by omega)];rw[hK k (by omega) _ (by rw[ByteArray.size_append,digS_size];omega),decS_big h,ByteArray.append_assoc]
theorem itoa_nat (u:Nat):(⟨(Lib.itoa (u:Int)).toArray⟩ : ByteArray)=decS u:=by
 unfold Lib.itoa;rw[if_neg (by omega),Int.toNat_natCast]
 rfl
theorem l1Num_ev (u:Nat) (h:u≤8000000000000000000):Ev (fun k=>qvv.f k (u:Int)) (decS u):=by
 rcases Nat.eq_zero_or_pos u with rfl|hu
 ·refine⟨0,fun k _=>?_⟩;have:decS 0=(⟨#[48]⟩ : ByteArray):=by rw[decS_small (by omega)];rfl
  rw[this]
  rfl
 ·obtain⟨K,hK⟩:=size_l0 u hu;refine⟨K,fun k hk=>?_⟩
  show qvv.f k (u:Int)=_
  simp only[qvv.f,qwz.f,if_neg (show ¬ ((u:Int) < 0) by omega),if_neg (show ¬ ((u:Int)=0) by omega)];rw[hK k hk _ (by show 0 + u≤_;omega),Option.bind_some]
  congr 1
  apply ByteArray.ext
  simp
theorem itoa_eq (u:Nat) (h:u≤8000000000000000000):strconv_Itoa.f (u:Int)=some (decS u):=by
 unfold strconv_Itoa.f;rw[if_pos ⟨by omega,by omega⟩,itoa_nat]
theorem decS_len (u:Nat):∀ k,u < 10 ^ (k + 1)→(decS u).size≤k + 1:=by
 induction u using Nat.strongRecOn with
 | _ u ih =>
  intro k hk
  by_cases h:u < 10
  ·rw[decS_small h,digS_size];omega
  ·rcases k with _|k
   ·omega
   ·rw[decS_big h,ByteArray.size_append,digS_size];have:=ih (u / 10) (by omega) k (by rw[Nat.pow_succ] at hk;omega)
    omega
def numS (n:Int):ByteArray:=⟨(Lib.itoa n).toArray⟩
theorem numS_nat (u:Nat):numS (u:Int)=decS u:=itoa_nat u
theorem numS_neg (u:Nat) (h : 0 < u):numS (-(u:Int))=(⟨#[45]⟩ : ByteArray) ++ decS u:=by
 unfold numS decS
 apply ByteArray.ext
 rw[show Lib.itoa (-(u:Int))=45 :: Lib.decDigits u by unfold Lib.itoa;rw[if_pos (by omega)];simp];simp
theorem itoa_all (n:Int) (h:okI n):strconv_Itoa.f n=some (numS n):=by
 have h1:=h.1;have h2:=h.2;unfold strconv_Itoa.f;rw[if_pos ⟨by omega,by omega⟩]
 rfl
theorem sizeA_pos (m:Nat):∀ (u:Nat),0 < u→u≤9223372036854775807→u < 10 ^ (m + 1)→∀ (k:Nat) (acc:ByteArray),m + 1 < k→acc.size + m≤1000000→qwz.l0 k (u:Int) acc=some (decS u ++ acc):=by
 induction m with
 | zero =>
  intro u hu hm h k acc hk hacc
  obtain⟨k,rfl⟩ : ∃ m,k=m + 1 + 1:=⟨k - 2,by omega⟩;have h10:u < 10:=by omega
  have e1:Int.tmod (u:Int) 10=(u:Int):=by rw[Int.tmod_eq_emod_of_nonneg (by omega)];omega
  have e2:Int.tdiv (u:Int) 10=0:=by rw[Int.tdiv_eq_ediv_of_nonneg (by omega)];omega
  have e3:wrap64 (48 + (u:Int))=48 + (u:Int):=w64 (by omega) (by omega);have e4:wrap64 0=0:=w64 (by omega) (by omega);simp only[qwz.l0,if_neg (show ¬ ((u:Int)=0) by omega),e1,e2,e3,e4,if_neg (show ¬ ((u:Int) < 0) by omega),Option.bind_some,dig_eq h10,digS_size,if_pos (show 1 + acc.size≤9223372036854775807 by omega),if_true];rw[decS_small h10]
 | succ m ih =>
  intro u hu hm h k acc hk hacc
  obtain⟨k,rfl⟩ : ∃ m,k=m + 1:=⟨k - 1,by omega⟩;have e1:Int.tmod (u:Int) 10=((u % 10:Nat):Int):=by rw[Int.tmod_eq_emod_of_nonneg (by omega)];omega
  have e2:wrap64 (Int.tdiv (u:Int) 10)=((u / 10:Nat):Int):=by rw[Int.tdiv_eq_ediv_of_nonneg (by omega),w64 (by omega) (by omega)];omega
  have e3:wrap64 (48 + ((u % 10:Nat):Int))=48 + ((u % 10:Nat):Int):=w64 (by omega) (by omega);simp only[qwz.l0,if_neg (show ¬ ((u:Int)=0) by omega),e1,e2,e3,if_neg (show ¬ (((u % 10:Nat):Int) < 0) by omega),Option.bind_some,dig_eq (show u % 10 < 10 by omega),digS_size,if_pos (show 1 + acc.size≤9223372036854775807 by omega)]
  by_cases hs:u < 10
  ·obtain⟨k,rfl⟩ : ∃ m,k=m + 1:=⟨k - 1,by omega⟩;rw[show u / 10=0 by omega,decS_small hs,show u % 10=u by omega];simp only[qwz.l0,show((0:Nat):Int)=0 from rfl,if_true]
  ·rw[ih (u / 10) (by omega) (by omega) (by rw[Nat.pow_succ] at h;omega) k _ (by omega) (by rw[ByteArray.size_append,digS_size];omega),decS_big hs,ByteArray.append_assoc]
theorem sizeA_neg (m:Nat):∀ (u:Nat),0 < u→u≤9223372036854775808→u < 10 ^ (m + 1)→∀ (k:Nat) (acc:ByteArray),m + 1 < k→acc.size + m≤1000000→qwz.l0 k (-(u:Int)) acc=some (decS u ++ acc):=by
 have step:∀ (u:Nat),0 < u→u≤9223372036854775808→∀ (k:Nat) (acc:ByteArray),acc.size≤1000000→qwz.l0 (k + 1) (-(u:Int)) acc=qwz.l0 k (-((u / 10:Nat):Int)) (digS (u % 10) ++ acc):=by
  intro u hu hm k acc hacc
  have e1:Int.tmod (-(u:Int)) 10 = -((u % 10:Nat):Int):=by rw[Int.neg_tmod,Int.tmod_eq_emod_of_nonneg (by omega)];omega
  have e2:wrap64 (Int.tdiv (-(u:Int)) 10) = -((u / 10:Nat):Int):=by rw[Int.neg_tdiv,Int.tdiv_eq_ediv_of_nonneg (by omega),w64 (by omega) (by omega)];omega
  have e3:wrap64 (48 + ((u % 10:Nat):Int))=48 + ((u % 10:Nat):Int):=w64 (by omega) (by omega);have e5:wrap64 ((u % 10:Nat):Int)=((u % 10:Nat):Int):=w64 (by omega) (by omega);rw[qwz.l0,if_neg (show ¬ (-(u:Int)=0) by omega),e1,e2]
  by_cases hz:u % 10=0
  ·rw[hz];simp only[show -((0:Nat):Int)=0 from rfl,if_neg (show ¬ ((0:Int) < 0) by decide),Option.bind_some];rw[show([(wrap64 (48 + 0)) % 256]:List Int)=[((48 + ((0:Nat):Int))) % 256] by rw[w64 (by omega) (by omega)];rfl,dig_eq (show 0 < 10 by decide),if_pos (by rw[digS_size];omega)]
  ·rw[if_pos (show -((u % 10:Nat):Int) < 0 by omega)];simp only[Int.neg_neg,e5,e3,Option.bind_some,dig_eq (show u % 10 < 10 by omega),digS_size,if_pos (show 1 + acc.size≤9223372036854775807 by omega)]
 induction m with
 | zero =>
  intro u hu hm h k acc hk hacc
  obtain⟨k,rfl⟩ : ∃ m,k=m + 1 + 1:=⟨k - 2,by omega⟩;have h10:u < 10:=by omega
  rw[step u hu hm (k + 1) acc (by omega),show u / 10=0 by omega,show u % 10=u by omega,decS_small h10];simp only[qwz.l0,show -((0:Nat):Int)=0 from rfl,if_true]
 | succ m ih =>
  intro u hu hm h k acc hk hacc
  obtain⟨k,rfl⟩ : ∃ m,k=m + 1:=⟨k - 1,by omega⟩;rw[step u hu hm k acc (by omega)]
  by_cases hs:u < 10
  ·obtain⟨k,rfl⟩ : ∃ m,k=m + 1:=⟨k - 1,by omega⟩;rw[show u / 10=0 by omega,decS_small hs,show u % 10=u by omega];simp only[qwz.l0,show -((0:Nat):Int)=0 from rfl,if_true]
  ·rw[ih (u / 10) (by omega) (by omega) (by rw[Nat.pow_succ] at h;omega) k _ (by omega) (by rw[ByteArray.size_append,digS_size];omega),decS_big hs,ByteArray.append_assoc]
theorem app_empty (s:ByteArray):s ++ (⟨#[]⟩ : ByteArray)=s:=by apply ByteArray.ext;simp
theorem decS_zero:decS 0=(⟨#[48]⟩ : ByteArray):=by rw[decS_small (by omega)];rfl
theorem l1Size_ev (n:Int) (h:okI n):Ev (fun k=>qwz.f k n) (decS n.natAbs):=by
 have h1:=h.1;have h2:=h.2;refine⟨30,fun k hk=>?_⟩
 show qwz.f k n=_
 unfold qwz.f
 by_cases hz:n=0
 ·subst hz;rw[if_pos rfl];exact congrArg some decS_zero.symm
 rw[if_neg hz];have hp:n.natAbs < 10 ^ (18 + 1):=by omega
 rcases Int.lt_or_le n 0 with hn|hn
 ·have e:n = -((n.natAbs:Nat):Int):=by omega
  conv=>lhs;rw[e]
  rw[sizeA_neg 18 n.natAbs (by omega) (by omega) hp k _ (by omega) (by show 0 + 18≤_;omega),app_empty]
 ·have e:n=((n.natAbs:Nat):Int):=by omega
  conv=>lhs;rw[e]
  rw[sizeA_pos 18 n.natAbs (by omega) (by omega) hp k _ (by omega) (by show 0 + 18≤_;omega),app_empty]
theorem decS_le (u:Nat) (h:u≤9223372036854775808):(decS u).size≤19:=decS_len u 18 (by omega)
theorem l1Num_all (n:Int) (h:okI n):Ev (fun k=>qvv.f k n) (numS n):=by
 have h1:=h.1;have h2:=h.2;simp only[qvv.f];have hle:=decS_le n.natAbs (by omega)
 rcases Int.lt_or_le n 0 with hn|hn
 ·simp only[if_pos hn];refine Ev.bind (l1Size_ev n h) ?_;simp only[if_pos (show 1 + (decS n.natAbs).size≤9223372036854775807 by omega)]
  have e:numS n=(⟨#[45]⟩ : ByteArray) ++ decS n.natAbs:=by
   conv=>lhs;rw[show n = -((n.natAbs:Nat):Int) by omega]
   exact numS_neg _ (by omega)
  rw[e];exact Ev.now _
 ·simp only[if_neg (show ¬ n < 0 by omega)];refine Ev.bind (l1Size_ev n h) ?_
  have e:numS n=decS n.natAbs:=by
   conv=>lhs;rw[show n=((n.natAbs:Nat):Int) by omega]
   exact numS_nat _
  rw[e];exact Ev.now _
theorem numS_le (n:Int) (h:okI n):(numS n).size≤20:=by
 have h1:=h.1;have h2:=h.2;have hle:=decS_le n.natAbs (by omega)
 rcases Int.lt_or_le n 0 with hn|hn
 ·rw[show numS n=(⟨#[45]⟩ : ByteArray) ++ decS n.natAbs by
   conv=>lhs;rw[show n = -((n.natAbs:Nat):Int) by omega]
   exact numS_neg _ (by omega),ByteArray.size_append,show(⟨#[45]⟩ : ByteArray).size=1 from rfl]
  omega
 ·rw[show numS n=decS n.natAbs by
   conv=>lhs;rw[show n=((n.natAbs:Nat):Int) by omega]
   exact numS_nat _]
  omega
def dig4 (r:Nat):ByteArray:=((digS (r / 1000 % 10) ++ digS (r / 100 % 10)) ++ digS (r / 10 % 10)) ++ digS (r % 10)
theorem dig4_size (r:Nat):(dig4 r).size=4:=rfl
theorem decS_four {u:Nat} (h:¬ u < 10000):decS u=decS (u / 10000) ++ dig4 (u % 10000):=by
 rw[decS_big (show ¬ u < 10 by omega),decS_big (show ¬ u / 10 < 10 by omega),decS_big (show ¬ u / 10 / 10 < 10 by omega),decS_big (show ¬ u / 10 / 10 / 10 < 10 by omega)];unfold dig4;rw[show u / 10 / 10 / 10 / 10=u / 10000 by omega,show u / 10 / 10 / 10 % 10=u % 10000 / 1000 % 10 by omega,show u / 10 / 10 % 10=u % 10000 / 100 % 10 by omega,show u / 10 % 10=u % 10000 / 10 % 10 by omega,show u % 10=u % 10000 % 10 by omega];simp only[ByteArray.append_assoc]
def zeroS:ByteArray:=⟨#[48]⟩
theorem digS_zero:digS 0=zeroS:=rfl
theorem fill_one {u:Nat} (h:u < 10):zeroS ++ (zeroS ++ (zeroS ++ (zeroS ++ decS u)))=zeroS ++ dig4 u:=by
 rw[decS_small h];unfold dig4;rw[show u / 1000 % 10=0 by omega,show u / 100 % 10=0 by omega,show u / 10 % 10=0 by omega,show u % 10=u by omega,digS_zero];simp only[ByteArray.append_assoc]
theorem fill_two {u:Nat} (h0:¬ u < 10) (h:u < 100):zeroS ++ (zeroS ++ (zeroS ++ decS u))=zeroS ++ dig4 u:=by
 rw[decS_big h0,decS_small (show u / 10 < 10 by omega)];unfold dig4;rw[show u / 1000 % 10=0 by omega,show u / 100 % 10=0 by omega,show u / 10 % 10=u / 10 by omega,digS_zero];simp only[ByteArray.append_assoc]
theorem fill_three {u:Nat} (h0:¬ u < 100) (h:u < 1000):zeroS ++ (zeroS ++ decS u)=zeroS ++ dig4 u:=by
 rw[decS_big (show ¬ u < 10 by omega),decS_big (show ¬ u / 10 < 10 by omega),decS_small (show u / 10 / 10 < 10 by omega)];unfold dig4;rw[show u / 1000 % 10=0 by omega,show u / 10 / 10=u / 100 % 10 by omega,digS_zero];simp only[ByteArray.append_assoc]
theorem fill_four {u:Nat} (h0:¬ u < 1000) (h:u < 10000):zeroS ++ decS u=zeroS ++ dig4 u:=by
 rw[decS_big (show ¬ u < 10 by omega),decS_big (show ¬ u / 10 < 10 by omega),decS_big (show ¬ u / 10 / 10 < 10 by omega),decS_small (show u / 10 / 10 / 10 < 10 by omega)];unfold dig4;rw[show u / 10 / 10 / 10=u / 1000 % 10 by omega,show u / 10 / 10 % 10=u / 100 % 10 by omega]
def filled (u:Nat):ByteArray:=decS (u / 10000) ++ dig4 (u % 10000)
theorem size_one {u:Nat} (h:u < 10):(decS u).size=1:=by rw[decS_small h];rfl
theorem size_two {u:Nat} (h0:¬ u < 10) (h:u < 100):(decS u).size=2:=by rw[decS_big h0,decS_small (show u / 10 < 10 by omega)];rfl
theorem size_three {u:Nat} (h0:¬ u < 100) (h:u < 1000):(decS u).size=3:=by rw[decS_big (show ¬ u < 10 by omega),ByteArray.size_append,size_two (by omega) (by omega),digS_size]
theorem size_four {u:Nat} (h0:¬ u < 1000) (h:u < 10000):(decS u).size=4:=by rw[decS_big (show ¬ u < 10 by omega),ByteArray.size_append,size_three (by omega) (by omega),digS_size]
theorem filled_size (u:Nat):(filled u).size=(decS (u / 10000)).size + 4:=by unfold filled;rw[ByteArray.size_append,dig4_size]
theorem decS_pos (u:Nat) : 1≤(decS u).size:=by
 by_cases h:u < 10
 ·rw[size_one h];exact Nat.le_refl _
 ·rw[decS_big h,ByteArray.size_append,digS_size];omega
theorem filled_small {u:Nat} (h:u < 10000):filled u=zeroS ++ dig4 u:=by
 unfold filled;rw[show u / 10000=0 by omega,Nat.mod_eq_of_lt h,decS_zero]
 rfl
theorem extract_left (a b:ByteArray):(a ++ b).extract 0 a.size=a:=by
 apply ByteArray.ext
 simp[ByteArray.data_extract,ByteArray.data_append,Array.extract_append]
theorem extract_right (a b:ByteArray):(a ++ b).extract a.size (a ++ b).size=b:=by
 apply ByteArray.ext
 have e:a.data.size=a.size:=rfl;have e2:b.data.size=b.size:=rfl;simp only[ByteArray.data_extract,ByteArray.data_append,Array.extract_append,ByteArray.size_append,← e,← e2,Nat.sub_self,Nat.add_sub_cancel_left,Array.extract_size];rw[Array.extract_empty_of_size_le_start (Nat.le_refl _)];simp
def decB (n:Int):ByteArray:=((if n < 0 then(⟨#[45]⟩ : ByteArray) else⟨#[]⟩) ++ decS (n.natAbs / 10000)) ++ ((⟨#[46]⟩ : ByteArray) ++ dig4 (n.natAbs % 10000))
theorem low_cut (r:Nat) (h:r < 10000):(decS (r + 10000)).extract 1 (decS (r + 10000)).size=dig4 r:=by
 rw[decS_four (show ¬ r + 10000 < 10000 by omega),show(r + 10000) / 10000=1 by omega,show(r + 10000) % 10000=r by omega];have e:(decS 1).size=1:=size_one (by omega);have:=extract_right (decS 1) (dig4 r);rw[e] at this;exact this
theorem fuint_eq (u:Nat) (h:u < 18446744073709551616):qxw.f (u:Int) 10=some (decS u):=by
 unfold qxw.f;rw[if_pos ⟨rfl,by omega,by omega⟩,Int.toNat_natCast]
 rfl
theorem Ev.ifP {α:Type} {c:Prop} [Decidable c] {f g:Nat→Option α} {r : α} (h:c) (he:Ev f r):Ev (fun n=>if c then f n else g n) r:=by
 simp only[if_pos h];exact he
theorem shr_natT (e n:Nat) (hn:n≤64):shr .i64 (e:Int) (n:Int)=((e / 2 ^ n:Nat):Int):=by
 unfold shr;rw[Int.toNat_natCast,Nat.min_eq_left (show n≤IntKind.i64.bits from hn)];simp
theorem smallT:∀ x:Int,0≤x→x < 2 ^ 40→IntKind.i64.wrap x=x:=fun x h0 h1=>IntWalk.i64_in _ (by omega)
theorem and255_i (e n:Nat) (he:e < 4294967296) (hn:n≤64):Go.bits .and .i64 (shr .i64 (e:Int) (n:Int)) 255=((e / 2 ^ n % 256:Nat):Int):=by
 have hle:e / 2 ^ n≤e:=Nat.div_le_self _ _;obtain⟨q,eq⟩ : ∃ q,q=e / 2 ^ n:=⟨_,rfl⟩;rw[shr_natT e n hn,← eq];rw[← eq] at hle;rw[show(255:Int)=2 ^ 8 - 1 by decide,Go.bits_mask .i64 40 (by decide) smallT 8 (by decide) _ (by omega) (by omega)]
 omega
def blockB (e m:Nat):ByteArray:=(((((((decS (e / 16777216) ++ (⟨#[46]⟩ : ByteArray)) ++ decS (e / 65536 % 256)) ++ (⟨#[46]⟩ : ByteArray)) ++ decS (e / 256 % 256)) ++ (⟨#[46]⟩ : ByteArray)) ++ decS (e % 256)) ++ (⟨#[47]⟩ : ByteArray)) ++ decS m
def textB (k n:Int) (t ty:ByteArray):ByteArray :=
 if k=1 then(if n=1 then(⟨#[116,114,117,101]⟩ : ByteArray) else(⟨#[102,97,108,115,101]⟩ : ByteArray))
 else if k=2 then numS n
 else if k=3 then quoteB t
 else if k=4 then(ty ++ (⟨#[58,58]⟩ : ByteArray)) ++ quoteB t
 else if k=5 then decB n
 else if k=6 then blockB (n / 64).toNat (n % 64).toNat
 else(⟨#[64]⟩ : ByteArray) ++ numS n
theorem dec3 (u:Nat) (h:u < 1000):(decS u).size≤3:=decS_len u 2 (by omega)
theorem dec10 (u:Nat) (h:u < 10000000000):(decS u).size≤10:=decS_len u 9 (by omega)
theorem addr_round (e j:Nat) (he:e < 4294967296) (hj:j≤24) (s:ByteArray) (hs:s.size≤1000) (k:Nat) (a b:Int) (t ty:ByteArray) :
  vz.l0 (k + 1) (e:Int) s (j:Int) a b t ty=vz.l0 k (e:Int) (s ++ (decS (e / 2 ^ j % 256) ++ (⟨#[46]⟩ : ByteArray))) ((j:Int) - 8) a b t ty:=by
 have h3:=dec3 (e / 2 ^ j % 256) (by omega);rw[vz.l0,if_pos (show(j:Int) ≥ 0 by omega),if_pos (show 0≤(j:Int) by omega),and255_i e j he (by omega),itoa_eq _ (by omega),Option.bind_some,if_pos (by omega),if_pos (by rw[ByteArray.size_append,show(⟨#[46]⟩ : ByteArray).size=1 from rfl];omega),w64 (by omega) (by omega)]
theorem addr_end (e m:Nat) (hm:m < 64) (s:ByteArray) (hs:s.size≤1000) (k:Nat) (a b:Int) (hb:Int.tmod b 64=(m:Int)) (t ty:ByteArray) :
  vz.l0 (k + 1) (e:Int) (s ++ (⟨#[46]⟩ : ByteArray)) (-8) a b t ty=some ((s ++ (⟨#[47]⟩ : ByteArray)) ++ decS m):=by
 have h3:=dec3 m (by omega);have hsz:(s ++ (⟨#[46]⟩ : ByteArray)).size=s.size + 1:=by rw[ByteArray.size_append];rfl
 have ew:wrap64 (((s ++ (⟨#[46]⟩ : ByteArray)).size:Int) - 1)=((s.size:Nat):Int):=by rw[hsz,w64 (by omega) (by omega)];omega
 have ex:=extract_left s (⟨#[46]⟩ : ByteArray);rw[vz.l0,if_neg (by decide),ew,if_pos (by omega),if_pos (by omega),Int.toNat_natCast,ex,if_pos (by omega),hb,itoa_eq _ (by omega),Option.bind_some,if_pos (by rw[ByteArray.size_append,show(⟨#[47]⟩ : ByteArray).size=1 from rfl];omega)]
theorem addr_text (e m:Nat) (he:e < 4294967296) (hm:m < 64) (a b:Int) (hb:Int.tmod b 64=(m:Int)) (t ty:ByteArray):∀ k,5 < k→vz.l0 k (e:Int) (⟨#[]⟩ : ByteArray) 24 a b t ty=some (blockB e m):=by
 intro k hk
 obtain⟨k,rfl⟩ : ∃ q,k=q + 1 + 1 + 1 + 1 + 1:=⟨k - 5,by omega⟩;have d1:=dec3 (e / 2 ^ 24 % 256) (by omega);have d2:=dec3 (e / 2 ^ 16 % 256) (by omega);have d3:=dec3 (e / 2 ^ 8 % 256) (by omega);have d4:=dec3 (e / 2 ^ 0 % 256) (by omega);have one:(⟨#[46]⟩ : ByteArray).size=1:=rfl;have zero:(⟨#[]⟩ : ByteArray).size=0:=rfl;have r1:=addr_round e 24 he (by omega) (⟨#[]⟩ : ByteArray) (by omega) (k + 1 + 1 + 1 + 1) a b t ty;rw[show((24:Nat):Int)=24 from rfl] at r1;rw[r1];have r2:=addr_round e 16 he (by omega) ((⟨#[]⟩ : ByteArray) ++ (decS (e / 2 ^ 24 % 256) ++ (⟨#[46]⟩ : ByteArray))) (by simp only[ByteArray.size_append];omega) (k + 1 + 1 + 1) a b t ty;rw[show((16:Nat):Int)=24 - 8 from rfl] at r2;rw[r2];have r3:=addr_round e 8 he (by omega) (((⟨#[]⟩ : ByteArray) ++ (decS (e / 2 ^ 24 % 256) ++ (⟨#[46]⟩ : ByteArray))) ++ (decS (e / 2 ^ 16 % 256) ++ (⟨#[46]⟩ : ByteArray))) (by simp only[ByteArray.size_append];omega) (k + 1 + 1) a b t ty;rw[show((8:Nat):Int)=24 - 8 - 8 from rfl] at r3;rw[r3];have r4:=addr_round e 0 he (by omega) ((((⟨#[]⟩ : ByteArray) ++ (decS (e / 2 ^ 24 % 256) ++ (⟨#[46]⟩ : ByteArray))) ++ (decS (e / 2 ^ 16 % 256) ++ (⟨#[46]⟩ : ByteArray))) ++ (decS (e / 2 ^ 8 % 256) ++ (⟨#[46]⟩ : ByteArray))) (by simp only[ByteArray.size_append];omega) (k + 1) a b t ty;rw[show((0:Nat):Int)=24 - 8 - 8 - 8 from rfl] at r4;rw[r4];have r5:=addr_end e m hm (((((⟨#[]⟩ : ByteArray) ++ (decS (e / 2 ^ 24 % 256) ++ (⟨#[46]⟩ : ByteArray))) ++ (decS (e / 2 ^ 16 % 256) ++ (⟨#[46]⟩ : ByteArray))) ++ (decS (e / 2 ^ 8 % 256) ++ (⟨#[46]⟩ : ByteArray))) ++ decS (e / 2 ^ 0 % 256)) (by simp only[ByteArray.size_append];omega) k a b hb t ty;rw[show(-8:Int)=24 - 8 - 8 - 8 - 8 from rfl,ByteArray.append_assoc] at r5;rw[r5]
 congr 1
 unfold blockB;rw[show e / 2 ^ 24 % 256=e / 16777216 by omega,show e / 2 ^ 16 % 256=e / 65536 % 256 by omega,show e / 2 ^ 8 % 256=e / 256 % 256 by omega,show e / 2 ^ 0 % 256=e % 256 by omega];rw[show(⟨#[]⟩ : ByteArray) ++ (decS (e / 16777216) ++ (⟨#[46]⟩ : ByteArray))=decS (e / 16777216) ++ (⟨#[46]⟩ : ByteArray) by apply ByteArray.ext;simp];simp only[ByteArray.append_assoc]
theorem fill_step (x:ByteArray) (hx:x.size < 5) (k:Nat) (a n:Int) (t ty:ByteArray):qwj.l0 (k + 1) x a n t ty=qwj.l0 k (zeroS ++ x) a n t ty:=by
 rw[qwj.l0,if_pos (by omega),if_pos (by omega)]
 rfl
theorem fill_end (n:Int) (hn:okI n) (k:Nat) (a:Int) (t ty:ByteArray):qwj.l0 (k + 1) (filled n.natAbs) a n t ty=some (decB n):=by
 have h1:=hn.1;have h2:=hn.2;have hp:=decS_pos (n.natAbs / 10000);have hl:=decS_le (n.natAbs / 10000) (by omega);have hsz:=filled_size n.natAbs;have ew:wrap64 (((filled n.natAbs).size:Int) - 4)=(((decS (n.natAbs / 10000)).size:Nat):Int):=by rw[hsz,w64 (by omega) (by omega)];omega
 have x1:(filled n.natAbs).extract 0 (decS (n.natAbs / 10000)).size=decS (n.natAbs / 10000):=extract_left _ _;have x2:(filled n.natAbs).extract (decS (n.natAbs / 10000)).size (filled n.natAbs).size=dig4 (n.natAbs % 10000):=extract_right _ _;have one:(⟨#[46]⟩ : ByteArray).size=1:=rfl;rw[qwj.l0,if_neg (by omega),ew,if_pos (by omega),if_pos (by omega),Int.toNat_natCast,x1,x2,if_pos (by omega),if_pos (by rw[ByteArray.size_append,dig4_size,one];omega)];unfold decB
 by_cases hneg:n < 0
 ·rw[if_pos hneg,if_pos hneg,if_pos (by simp only[ByteArray.size_append,dig4_size,one];omega)];simp only[ByteArray.append_assoc]
 ·rw[if_neg hneg,if_neg hneg]
  congr 1
  rw[show(⟨#[]⟩ : ByteArray) ++ decS (n.natAbs / 10000)=decS (n.natAbs / 10000) by apply ByteArray.ext;simp];simp only[ByteArray.append_assoc]
theorem fill_text (n:Int) (hn:okI n) (a:Int) (t ty:ByteArray):∀ k,6 < k→qwj.l0 k (decS n.natAbs) a n t ty=some (decB n):=by
 intro k hk
 obtain⟨k,rfl⟩ : ∃ q,k=q + 1 + 1 + 1 + 1 + 1:=⟨k - 5,by omega⟩;have fe:=fun q=>fill_end n hn q a t ty
 obtain⟨u,eu⟩ : ∃ u,u=n.natAbs:=⟨_,rfl⟩;rw[← eu] at fe ⊢;have z1:zeroS.size=1:=rfl
 by_cases c1:u < 10
 ·have e:=fill_one c1;rw[← filled_small (by omega)] at e;have hs:=size_one c1;rw[fill_step _ (by omega),fill_step _ (by simp only[ByteArray.size_append];omega),fill_step _ (by simp only[ByteArray.size_append];omega),fill_step _ (by simp only[ByteArray.size_append];omega),e];exact fe _
 by_cases c2:u < 100
 ·have e:=fill_two c1 c2;rw[← filled_small (by omega)] at e;have hs:=size_two c1 c2;rw[fill_step _ (by omega),fill_step _ (by simp only[ByteArray.size_append];omega),fill_step _ (by simp only[ByteArray.size_append];omega),e];exact fe _
 by_cases c3:u < 1000
 ·have e:=fill_three c2 c3;rw[← filled_small (by omega)] at e;have hs:=size_three c2 c3;rw[fill_step _ (by omega),fill_step _ (by simp only[ByteArray.size_append];omega),e];exact fe _
 by_cases c4:u < 10000
 ·have e:=fill_four c3 c4;rw[← filled_small (by omega)] at e;have hs:=size_four c3 c4;rw[fill_step _ (by omega),e];exact fe _
 rw[show decS u=filled u from decS_four c4];exact fe _
theorem u64_nonneg (n:Int) (h0 : 0≤n) (h1:n≤9223372036854775807):IntKind.u64.wrap n=n:=by rw[IntKind.wrap_u64];omega
theorem u64_negneg (n:Int) (h0:n < 0) (h1 : -9223372036854775808≤n):IntKind.u64.wrap (-(IntKind.u64.wrap n))=((n.natAbs:Nat):Int):=by rw[IntKind.wrap_u64,IntKind.wrap_u64];omega
theorem dec_parts (u:Nat) (hu:u≤9223372036854775808):qxw.f (IntKind.u64.wrap ((Int.tmod (u:Int) 10000) + 10000)) 10=some (decS (u % 10000 + 10000))∧qxw.f (IntKind.u64.wrap (Int.tdiv (u:Int) 10000)) 10=some (decS (u / 10000)):=by
 rw[Int.tmod_eq_emod_of_nonneg (by omega),Int.tdiv_eq_ediv_of_nonneg (by omega)];rw[show IntKind.u64.wrap ((u:Int) % 10000 + 10000)=((u % 10000 + 10000:Nat):Int) by rw[IntKind.wrap_u64];omega,show IntKind.u64.wrap ((u:Int) / 10000)=((u / 10000:Nat):Int) by rw[IntKind.wrap_u64];omega];exact⟨fuint_eq _ (by omega),fuint_eq _ (by omega)⟩
theorem good_six {n:Int} {t ty:ByteArray} (h:goodAtom 6 n t ty=true):blkOk n:=by
 simp only[goodAtom,noTexts,if_neg (show ¬ (6:Int)=1 by omega),if_neg (show ¬ ((6:Int)=2∨(6:Int)=5) by omega),if_neg (show ¬ (6:Int)=3 by omega),if_neg (show ¬ (6:Int)=4 by omega),if_true,Bool.and_eq_true,decide_eq_true_eq] at h;exact h.2
theorem good_text {k n:Int} {t ty:ByteArray} (h:goodAtom k n t ty=true) (hk:k=3∨k=4):t.size≤200∧ty.size≤30:=by
 rcases hk with rfl|rfl
 ·simp only[goodAtom,if_neg (show ¬ (3:Int)=1 by omega),if_neg (show ¬ ((3:Int)=2∨(3:Int)=5) by omega),if_true,Bool.and_eq_true,decide_eq_true_eq] at h;exact⟨h.2.1,by rw[h.1.2];omega⟩
 ·simp only[goodAtom,if_neg (show ¬ (4:Int)=1 by omega),if_neg (show ¬ ((4:Int)=2∨(4:Int)=5) by omega),if_neg (show ¬ (4:Int)=3 by omega),if_true,Bool.and_eq_true,decide_eq_true_eq] at h;exact⟨h.2.2.1.2,(name_size h.2.1).2⟩
theorem blk_parts {n:Int} (h:blkOk n) (hi:n≤9223372036854775807):∃ e m:Nat,(n / 64).toNat=e∧(n % 64).toNat=m∧e < 4294967296∧m < 64∧wrap64 (Int.tdiv n 64)=(e:Int)∧Int.tmod n 64=(m:Int):=by
 have h0:=h.1;have h2:=h.2.2.1;refine⟨(n / 64).toNat,(n % 64).toNat,rfl,rfl,by omega,by omega,?_,?_⟩
 ·rw[Int.tdiv_eq_ediv_of_nonneg h0,w64 (by omega) (by omega)];omega
 ·rw[Int.tmod_eq_emod_of_nonneg h0];omega
theorem implText_ev (k n:Int) (t ty:ByteArray) (ht:t.size≤9223372036854775807) (hty:ty.size≤9223372036854775807) (hn:okI n) :
  Ev (fun f=>vz.f f k n t ty) (if goodAtom k n t ty=true then textB k n t ty else⟨#[]⟩):=by
 simp only[vz.f];refine Ev.bind (implGoodAtom_ev k n t ty ht hty (fun _=>hn)) ?_
 by_cases hg:goodAtom k n t ty=true
 case neg=>simp only[if_neg hg];exact Ev.now _
 simp only[if_pos hg];have hnum:=numS_le n hn;have h1:=hn.1;have h2:=hn.2;unfold textB
 by_cases k1:k=1
 ·simp only[if_pos k1,qxk.f,qxv.f]
  by_cases hz:n=1
  ·subst hz;exact Ev.now _
  ·rw[show(n == 1)=false from beq_eq_false_iff_ne.2 hz];simp only[if_neg hz,Bool.false_eq_true,if_false,Option.bind_some];exact Ev.now _
 simp only[if_neg k1]
 by_cases k2:k=2
 ·simp only[if_pos k2,itoa_all n hn,Option.bind_some];exact Ev.now _
 simp only[if_neg k2]
 by_cases k3:k=3
 ·have hs:=(good_text hg (.inl k3)).1;simp only[if_pos k3,yquote_eq t (by omega),Option.bind_some];exact Ev.now _
 simp only[if_neg k3]
 by_cases k4:k=4
 ·have hs:=good_text hg (.inr k4);have hq:=quoteB_le t;simp only[if_pos k4,if_pos (show ty.size + 2≤9223372036854775807 by omega),yquote_eq t (by omega),Option.bind_some,if_pos (show(ty ++ (⟨#[58,58]⟩ : ByteArray)).size + (quoteB t).size≤9223372036854775807 by rw[ByteArray.size_append,show(⟨#[58,58]⟩ : ByteArray).size=2 from rfl];omega)];exact Ev.now _
 simp only[if_neg k4]
 by_cases k5:k=5
 ·simp only[if_pos k5];have hp:=decS_pos (n.natAbs / 10000);have hl:=decS_le (n.natAbs / 10000) (by omega);have hlow:=low_cut (n.natAbs % 10000) (by omega);have hpos:=decS_pos (n.natAbs % 10000 + 10000);have z0:(⟨#[]⟩ : ByteArray).size=0:=rfl;have z1:(⟨#[45]⟩ : ByteArray).size=1:=rfl;have z2:(⟨#[46]⟩ : ByteArray).size=1:=rfl;have d4:=dig4_size (n.natAbs % 10000);obtain⟨p1,p2⟩:=dec_parts n.natAbs (by omega)
  by_cases hneg:n < 0
  ·simp only[if_pos hneg,u64_negneg n hneg h1,p1,p2,Option.bind_some,hlow];simp only[if_pos (show 1 + (decS (n.natAbs / 10000)).size≤9223372036854775807 by omega),if_pos (show((⟨#[45]⟩ : ByteArray) ++ decS (n.natAbs / 10000)).size + 1≤9223372036854775807 by rw[ByteArray.size_append];omega),if_pos (show 1≤((decS (n.natAbs % 10000 + 10000)).size:Int) by omega),if_pos (show(((⟨#[45]⟩ : ByteArray) ++ decS (n.natAbs / 10000)) ++ (⟨#[46]⟩ : ByteArray)).size + (dig4 (n.natAbs % 10000)).size≤9223372036854775807 by simp only[ByteArray.size_append];omega)];have e:((((⟨#[45]⟩ : ByteArray) ++ decS (n.natAbs / 10000)) ++ (⟨#[46]⟩ : ByteArray)) ++ dig4 (n.natAbs % 10000))=decB n:=by unfold decB;rw[if_pos hneg];simp only[ByteArray.append_assoc]
   rw[e];exact Ev.now _
  ·have en:n=((n.natAbs:Nat):Int):=by omega
   have eu:IntKind.u64.wrap n=((n.natAbs:Nat):Int):=by rw[u64_nonneg n (by omega) h2];exact en
   simp only[if_neg hneg,eu,p1,p2,Option.bind_some,hlow];simp only[if_pos (show 0 + (decS (n.natAbs / 10000)).size≤9223372036854775807 by omega),if_pos (show((⟨#[]⟩ : ByteArray) ++ decS (n.natAbs / 10000)).size + 1≤9223372036854775807 by rw[ByteArray.size_append];omega),if_pos (show 1≤((decS (n.natAbs % 10000 + 10000)).size:Int) by omega),if_pos (show(((⟨#[]⟩ : ByteArray) ++ decS (n.natAbs / 10000)) ++ (⟨#[46]⟩ : ByteArray)).size + (dig4 (n.natAbs % 10000)).size≤9223372036854775807 by simp only[ByteArray.size_append];omega)];have e:((((⟨#[]⟩ : ByteArray) ++ decS (n.natAbs / 10000)) ++ (⟨#[46]⟩ : ByteArray)) ++ dig4 (n.natAbs % 10000))=decB n:=by unfold decB;rw[if_neg hneg];simp only[ByteArray.append_assoc]
   rw[e];exact Ev.now _
 simp only[if_neg k5]
 by_cases k6:k=6
 ·subst k6;obtain⟨e,m,e1,e2,he,hm,e3,e4⟩:=blk_parts (good_six hg) h2;simp only[if_true,e1,e2,e3];exact⟨6,fun f hf=>addr_text e m he hm _ n e4 t ty f (by omega)⟩
 simp only[if_neg k6,itoa_all n hn,Option.bind_some,if_pos (show 1 + (numS n).size≤9223372036854775807 by omega)];exact Ev.now _
theorem specText_ev (k n:Int) (t ty:ByteArray) (hn:okI n) (hg:goodAtom k n t ty=true):Ev (fun f=>qwj.f f k n t ty) (textB k n t ty):=by
 simp only[qwj.f];have hnum:=numS_le n hn;have h1:=hn.1;have h2:=hn.2;unfold textB
 by_cases k1:k=1
 ·simp only[if_pos k1]
  by_cases hz:n=1
  ·simp only[if_pos hz];exact Ev.now _
  ·simp only[if_neg hz];exact Ev.now _
 simp only[if_neg k1]
 by_cases k2:k=2
 ·simp only[if_pos k2];exact Ev.bind (l1Num_all n hn) (Ev.now _)
 simp only[if_neg k2]
 by_cases k3:k=3
 ·have hs:=(good_text hg (.inl k3)).1;simp only[if_pos k3];exact Ev.bind (l1Quoted_ev t (by omega)) (Ev.now _)
 simp only[if_neg k3]
 by_cases k4:k=4
 ·have hs:=good_text hg (.inr k4);have hq:=quoteB_le t;simp only[if_pos k4,if_pos (show ty.size + 2≤9223372036854775807 by omega)];refine Ev.bind (l1Quoted_ev t (by omega)) ?_;simp only[if_pos (show(ty ++ (⟨#[58,58]⟩ : ByteArray)).size + (quoteB t).size≤9223372036854775807 by rw[ByteArray.size_append,show(⟨#[58,58]⟩ : ByteArray).size=2 from rfl];omega)];exact Ev.now _
 simp only[if_neg k4]
 by_cases k5:k=5
 ·simp only[if_pos k5];refine Ev.bind (l1Size_ev n hn) ?_;exact⟨7,fun f hf=>fill_text n hn _ t ty f (by omega)⟩
 simp only[if_neg k5]
 by_cases k6:k=6
 ·subst k6;have hb:=good_six hg;have hb1:=hb.2.1;obtain⟨e,m,e1,e2,he,hm,e3,e4⟩:=blk_parts hb h2;have ew:wrap64 (32 - (m:Int))=((32 - m:Nat):Int):=by rw[w64 (by omega) (by omega)];omega
  have eb:Ev (fun f=>qvz.f f 6 n t ty) ((e:Int),2 ^ (32 - m)):=by
   simp only[qvz.f,e3,e4,ew];exact Ev.bind ⟨40,fun k hk=>pow2_eq _ (by omega) k (by omega)⟩ (Ev.now _)
  simp only[if_true,e1,e2];refine Ev.bind eb ?_;have q1:wrap64 (Int.tdiv (e:Int) 16777216)=((e / 16777216:Nat):Int):=by rw[Int.tdiv_eq_ediv_of_nonneg (by omega),w64 (by omega) (by omega)];omega
  have q2:Int.tmod (wrap64 (Int.tdiv (e:Int) 65536)) 256=((e / 65536 % 256:Nat):Int):=by rw[Int.tdiv_eq_ediv_of_nonneg (by omega),w64 (by omega) (by omega),Int.tmod_eq_emod_of_nonneg (by omega)];omega
  have q3:Int.tmod (wrap64 (Int.tdiv (e:Int) 256)) 256=((e / 256 % 256:Nat):Int):=by rw[Int.tdiv_eq_ediv_of_nonneg (by omega),w64 (by omega) (by omega),Int.tmod_eq_emod_of_nonneg (by omega)];omega
  have q4:Int.tmod (e:Int) 256=((e % 256:Nat):Int):=by rw[Int.tmod_eq_emod_of_nonneg (by omega)];omega
  have d1:=dec10 (e / 16777216) (by omega);have d2:=dec3 (e / 65536 % 256) (by omega);have d3:=dec3 (e / 256 % 256) (by omega);have d4:=dec3 (e % 256) (by omega);have d5:=dec3 m (by omega);have z2:(⟨#[46]⟩ : ByteArray).size=1:=rfl;have z3:(⟨#[47]⟩ : ByteArray).size=1:=rfl;simp only[q1,q2,q3,q4,e4];refine Ev.bind (l1Num_ev _ (by omega)) ?_;simp only[if_pos (show(decS (e / 16777216)).size + 1≤9223372036854775807 by omega)];refine Ev.bind (l1Num_ev _ (by omega)) ?_;refine Ev.ifP (by simp only[ByteArray.size_append];omega) ?_;refine Ev.ifP (by simp only[ByteArray.size_append];omega) ?_;refine Ev.bind (l1Num_ev _ (by omega)) ?_;refine Ev.ifP (by simp only[ByteArray.size_append];omega) ?_;refine Ev.ifP (by simp only[ByteArray.size_append];omega) ?_;refine Ev.bind (l1Num_ev _ (by omega)) ?_;refine Ev.ifP (by simp only[ByteArray.size_append];omega) ?_;refine Ev.ifP (by simp only[ByteArray.size_append];omega) ?_;refine Ev.bind (l1Num_ev _ (by omega)) ?_;refine Ev.ifP (by simp only[ByteArray.size_append];omega) ?_;exact Ev.now _
 simp only[if_neg k6];refine Ev.bind (l1Num_all n hn) ?_;simp only[if_pos (show 1 + (numS n).size≤9223372036854775807 by omega)];exact Ev.now _
def opOk (n k:Int):Bool:=(decide (n=1∨n=2∨n=3) && decide (k=2∨k=3∨k=5∨k=7)) || (decide (n=4) && decide (k=6))
def goodTerm (l:ByteArray) (n:Int) (p:ByteArray) (k m:Int) (t ty:ByteArray):Bool:=goodName l && (decide (p.size=0) && (goodAtom k m t ty && opOk n k))
theorem op_low {n k:Int} (h:n=1∨n=2∨n=3):opOk n k=decide (k=2∨k=3∨k=5∨k=7):=by
 unfold opOk;rw[decide_eq_true h,decide_eq_false (show ¬ n=4 by omega),Bool.true_and,Bool.false_and,Bool.or_false]
theorem op_four {n k:Int} (h:n=4):opOk n k=(k == 6):=by
 unfold opOk;rw[decide_eq_false (show ¬ (n=1∨n=2∨n=3) by omega),decide_eq_true h,Bool.true_and,Bool.false_and,Bool.false_or];rw[Bool.eq_iff_iff,decide_eq_true_eq,beq_iff_eq]
theorem op_none {n k:Int} (h1:¬ n=1) (h2:¬ n=2) (h3:¬ n=3) (h4:¬ n=4):opOk n k=false:=by
 unfold opOk;rw[decide_eq_false (show ¬ (n=1∨n=2∨n=3) by omega),decide_eq_false h4]
 rfl
theorem four (k:Int):(decide (k=2∨k=3∨k=5∨k=7))=(if k=2 then true else if k=3 then true else if k=5 then true else(k == 7)):=by
 by_cases k2:k=2
 ·subst k2;rfl
 by_cases k3:k=3
 ·subst k3;rfl
 by_cases k5:k=5
 ·subst k5;rfl
 rw[if_neg k2,if_neg k3,if_neg k5];rw[Bool.eq_iff_iff,decide_eq_true_eq,beq_iff_eq]
 omega
theorem some_if {c:Prop} [Decidable c] (b:Bool):(if c then some true else some b)=some (if c then true else b):=by split <;> rfl
theorem specTerm_j0 (b:Bool) (l:ByteArray) (n:Int) (p:ByteArray) (k m:Int) (t ty:ByteArray):Ev (fun f=>qvq.j0 f b l n p k m t ty) (!b && opOk n k):=by
 refine Ev.upA ?_;simp only[qvq.j0,some_if,← four]
 cases b
 case true=>exact Ev.now _
 simp only[Bool.false_eq_true,if_false,Bool.not_false,Bool.true_and]
 by_cases n1:n=1
 ·rw[op_low (.inl n1)];simp only[if_pos n1];exact Ev.now _
 by_cases n2:n=2
 ·rw[op_low (.inr (.inl n2))];simp only[if_neg n1,if_pos n2];exact Ev.now _
 by_cases n3:n=3
 ·rw[op_low (.inr (.inr n3))];simp only[if_neg n1,if_neg n2,if_pos n3];exact Ev.now _
 by_cases n4:n=4
 ·rw[op_four n4];simp only[if_neg n1,if_neg n2,if_neg n3,if_pos n4];exact Ev.now _
 rw[op_none n1 n2 n3 n4];simp only[if_neg n1,if_neg n2,if_neg n3,if_neg n4];exact Ev.now _
theorem specTerm_ev (l:ByteArray) (n:Int) (p:ByteArray) (k m:Int) (t ty:ByteArray) (hl:okS l) (hp:okS p) (hm:okI m) (ht:okS t) (hty:okS ty):Ev (fun f=>qvq.f f l n p k m t ty) (goodTerm l n p k m t ty):=by
 simp only[qvq.f];refine Ev.bind (specName_ev l hl) ?_;unfold goodTerm
 cases hg:goodName l
 case false=>simp only[Bool.false_eq_true,if_false,Bool.false_and];exact specTerm_j0 true l n p k m t ty
 simp only[if_true,Bool.true_and]
 by_cases hz:p.size=0
 ·simp only[if_pos (nil_list hz),decide_eq_true hz,Bool.true_and];refine Ev.bind (specGoodAtom_ev k m t ty ht hty (fun _=>hm)) ?_;have:=specTerm_j0 (!goodAtom k m t ty) l n p k m t ty;rw[Bool.not_not] at this;exact this
 ·simp only[if_neg (not_nil_list hz),decide_eq_false hz,Bool.false_and];exact specTerm_j0 true l n p k m t ty
theorem fits_ev (n k:Int):Ev (fun f=>xk.f f n k) (decide (n=1) || opOk n k):=by
 simp only[xk.f]
 by_cases n1:n=1
 ·simp only[if_pos n1,decide_eq_true n1,Bool.true_or];exact Ev.now _
 simp only[if_neg n1,decide_eq_false n1,Bool.false_or]
 by_cases n2:n=2
 ·subst n2;simp only[if_true];refine Ev.upA ?_;simp only[xk.j0,show((2:Int) == 2)=true from rfl,if_true,some_if,← four];rw[op_low (.inr (.inl rfl))];exact Ev.now _
 simp only[if_neg n2];refine Ev.upA ?_;simp only[xk.j0,some_if,← four]
 by_cases n3:n=3
 ·subst n3;simp only[show((3:Int) == 3)=true from rfl,if_true];rw[op_low (.inr (.inr rfl))];exact Ev.now _
 simp only[beq_eq_false_iff_ne.2 n3,Bool.false_eq_true,if_false]
 by_cases n4:n=4
 ·subst n4;simp only[if_true];rw[op_four rfl];exact Ev.now _
 simp only[if_neg n4];rw[op_none n1 n2 n3 n4];exact Ev.now _
theorem fits_both (n k:Int) (h4:¬ n=4):((decide (n=1) || opOk n k) && (decide ((2:Int)=1) || opOk 2 k))=opOk n k:=by
 rw[op_low (n:=2) (.inr (.inl rfl)),show decide ((2:Int)=1)=false from rfl,Bool.false_or]
 by_cases n1:n=1
 ·rw[decide_eq_true n1,Bool.true_or,Bool.true_and,op_low (.inl n1)]
 rw[decide_eq_false n1,Bool.false_or]
 by_cases h:n=2∨n=3
 ·rw[op_low (.inr h),Bool.and_self]
 ·rw[op_none n1 (fun e=>h (.inl e)) (fun e=>h (.inr e)) h4,Bool.false_and]
theorem implTerm_ev (l:ByteArray) (n:Int) (p:ByteArray) (k m:Int) (t ty:ByteArray) (hl:okS l) (hp:okS p) (hm:okI m) (ht:okS t) (hty:okS ty):Ev (fun f=>xz.f f l n p k m t ty) (goodTerm l n p k m t ty):=by
 simp only[xz.f];refine Ev.bind (implName_ev l hl) ?_;unfold goodTerm
 cases hg:goodName l
 case false=>simp only[Bool.false_eq_true,if_false,Bool.false_and];exact Ev.now _
 simp only[if_true,Bool.true_and]
 by_cases hz:p.size=0
 case neg=>simp only[if_neg (not_nil_list hz),decide_eq_false hz,Bool.false_and];exact Ev.now _
 simp only[if_pos (nil_list hz),decide_eq_true hz,Bool.true_and];refine Ev.bind (implGoodAtom_ev k m t ty ht hty (fun _=>hm)) ?_
 cases ha:goodAtom k m t ty
 case false=>simp only[Bool.false_eq_true,if_false,Bool.false_and];exact Ev.now _
 simp only[if_true,Bool.true_and]
 by_cases n4:n=4
 ·subst n4;simp only[if_true];rw[op_four rfl]
  by_cases k6:k=6
  ·subst k6;exact Ev.now _
  ·simp only[if_neg k6,beq_eq_false_iff_ne.2 k6];exact Ev.now _
 simp only[if_neg n4];rw[← fits_both n k n4];refine Ev.bind (fits_ev n k) ?_
 cases hf:(decide (n=1) || opOk n k)
 case false=>simp only[Bool.false_eq_true,if_false,Bool.false_and];exact Ev.now _
 simp only[if_true,Bool.true_and];exact Ev.bind (fits_ev 2 k) (Ev.now _)
theorem goodTerm_parts {l:ByteArray} {n:Int} {p:ByteArray} {k m:Int} {t ty:ByteArray} (h:goodTerm l n p k m t ty=true):l.size≤30∧goodAtom k m t ty=true∧(n=1∨n=2∨n=3∨n=4):=by
 unfold goodTerm opOk at h;simp only[Bool.and_eq_true,Bool.or_eq_true,decide_eq_true_eq] at h;exact⟨(name_size h.1).2,h.2.2.1,by omega⟩
theorem textB_le {k m:Int} {t ty:ByteArray} (h:goodAtom k m t ty=true) (hm:okI m):(textB k m t ty).size≤500:=by
 have hnum:=numS_le m hm;have h1:=hm.1;have h2:=hm.2;have hq:=quoteB_le t;unfold textB
 by_cases k1:k=1
 ·rw[if_pos k1];split <;> decide
 rw[if_neg k1]
 by_cases k2:k=2
 ·rw[if_pos k2];omega
 rw[if_neg k2]
 by_cases k3:k=3
 ·have hs:=(good_text h (.inl k3)).1;rw[if_pos k3];omega
 rw[if_neg k3]
 by_cases k4:k=4
 ·have hs:=good_text h (.inr k4);rw[if_pos k4];simp only[ByteArray.size_append,show(⟨#[58,58]⟩ : ByteArray).size=2 from rfl];omega
 rw[if_neg k4]
 by_cases k5:k=5
 ·have hl:=decS_le (m.natAbs / 10000) (by omega);rw[if_pos k5];unfold decB;have e:(if m < 0 then(⟨#[45]⟩ : ByteArray) else⟨#[]⟩).size≤1:=by split <;> decide
  simp only[ByteArray.size_append,dig4_size,show(⟨#[46]⟩ : ByteArray).size=1 from rfl];omega
 rw[if_neg k5]
 by_cases k6:k=6
 ·subst k6;obtain⟨e,q,e1,e2,he,hq,e3,e4⟩:=blk_parts (good_six h) h2;rw[if_pos rfl,e1,e2];have d1:=dec10 (e / 16777216) (by omega);have d2:=dec3 (e / 65536 % 256) (by omega);have d3:=dec3 (e / 256 % 256) (by omega);have d4:=dec3 (e % 256) (by omega);have d5:=dec3 q (by omega);unfold blockB;simp only[ByteArray.size_append,show(⟨#[46]⟩ : ByteArray).size=1 from rfl,show(⟨#[47]⟩ : ByteArray).size=1 from rfl];omega
 rw[if_neg k6];simp only[ByteArray.size_append,show(⟨#[64]⟩ : ByteArray).size=1 from rfl];omega
def termS (l:ByteArray) (n:Int) (p:ByteArray) (k m:Int) (t ty:ByteArray):ByteArray:=if goodTerm l n p k m t ty=true then termB l n (textB k m t ty) else⟨#[]⟩
theorem implTermText_ev (l:ByteArray) (n:Int) (p:ByteArray) (k m:Int) (t ty:ByteArray) (hl:okS l) (hp:okS p) (hm:okI m) (ht:okS t) (hty:okS ty):Ev (fun f=>wj.f f l n p k m t ty) (termS l n p k m t ty):=by
 simp only[wj.f];refine Ev.bind (implTerm_ev l n p k m t ty hl hp hm ht hty) ?_;unfold termS
 cases hg:goodTerm l n p k m t ty
 case false=>simp only[Bool.false_eq_true,if_false];exact Ev.now _
 obtain⟨q1,q2,q3⟩:=goodTerm_parts hg;have q4:=textB_le q2 hm;simp only[if_true];have hi:=implText_ev k m t ty ht hty hm;rw[if_pos q2] at hi;refine Ev.bind hi ?_;refine Ev.ifP ⟨by omega,by omega,by omega,by omega⟩ ?_;exact Ev.now _
theorem op_same {n:Int} (h:n=1∨n=2∨n=3∨n=4):rdOf ByteArray.empty ([(⟨#[]⟩ : ByteArray),(⟨#[61,61]⟩ : ByteArray),(⟨#[60]⟩ : ByteArray),(⟨#[60,61]⟩ : ByteArray),(⟨#[105,110]⟩ : ByteArray)]:List ByteArray) n=opAt n:=by
 rcases h with rfl|rfl|rfl|rfl <;> rfl
theorem specTermText_ev (l:ByteArray) (n:Int) (p:ByteArray) (k m:Int) (t ty:ByteArray) (hl:okS l) (hp:okS p) (hm:okI m) (ht:okS t) (hty:okS ty):Ev (fun f=>qkw.f f l n p k m t ty) (termS l n p k m t ty):=by
 simp only[qkw.f];refine Ev.bind (specTerm_ev l n p k m t ty hl hp hm ht hty) ?_;unfold termS
 cases hg:goodTerm l n p k m t ty
 case false=>simp only[Bool.false_eq_true,if_false];exact Ev.now _
 obtain⟨q1,q2,q3⟩:=goodTerm_parts hg;have q4:=textB_le q2 hm;have q5:=opAt_size n;have z1:(⟨#[32]⟩ : ByteArray).size=1:=rfl;simp only[if_true,qxz.f,Option.bind_some];refine Ev.ifP (by omega) ?_;refine Ev.ifP (by omega) ?_;refine Ev.ifP (by show n < 5;omega) ?_;rw[op_same q3];refine Ev.ifP (by simp only[ByteArray.size_append];omega) ?_;refine Ev.ifP (by simp only[ByteArray.size_append];omega) ?_;refine Ev.bind (specText_ev k m t ty hm q2) ?_;refine Ev.ifP (by simp only[ByteArray.size_append];omega) ?_;exact Ev.now _
def letC (c:Int):Bool:=decide (97≤c∧c≤122∨65≤c∧c≤90)
def digC (c:Int):Bool:=decide (48≤c∧c≤57)
theorem sletter_eq (c:Int):qvk.f c=some (letC c):=by
 unfold qvk.f letC
 split
 ·split
  ·congr 1;symm;rw[decide_eq_true_eq];omega
  ·split
   ·congr 1;rw[decide_eq_decide];omega
   ·congr 1;symm;rw[decide_eq_false_iff_not];omega
 ·split
  ·congr 1;rw[decide_eq_decide];omega
  ·congr 1;symm;rw[decide_eq_false_iff_not];omega
theorem sdigit_eq (c:Int):qvj.f c=some (digC c):=by
 unfold qvj.f digC
 split
 ·congr 1;rw[decide_eq_decide];omega
 ·congr 1;symm;rw[decide_eq_false_iff_not];omega
theorem iletter_eq (c:Int):xj.f c=some (letC c):=by
 unfold xj.f letC
 split
 ·split
  ·congr 1;symm;rw[decide_eq_true_eq];omega
  ·split
   ·congr 1;rw[decide_eq_decide];omega
   ·congr 1;symm;rw[decide_eq_false_iff_not];omega
 ·split
  ·congr 1;rw[decide_eq_decide];omega
  ·congr 1;symm;rw[decide_eq_false_iff_not];omega
theorem idigit_eq (c:Int):wv.f c=some (digC c):=by
 unfold wv.f digC
 split
 ·congr 1;rw[decide_eq_decide];omega
 ·congr 1;symm;rw[decide_eq_false_iff_not];omega
def idC (c:Int):Bool:=if letC c=true then true else if digC c=true then true else if c=95 then true else if c=45 then true else if c=46 then true else false
def idN (s:ByteArray):Nat→Bool
 | 0=>true
 | d + 1=>if idC (bt s ((s.size - (d + 1):Nat):Int))=true then idN s d else false
theorem l7Id_l0 (s:ByteArray) (hs:s.size≤9223372036854775807) (d:Nat):∀ (k i:Nat),s.size - i=d→i≤s.size→d < k→qxj.l0 k s i=some (if idN s d=true then(if (s.size:Int) ≥ 1 then decide ((s.size:Int)≤40) else false) else false):=by
 induction d with
 | zero =>
  intro k i hd hi hk
  obtain⟨k,rfl⟩ : ∃ m,k=m + 1:=⟨k - 1,by omega⟩;simp only[qxj.l0,idN,if_true];rw[if_neg (by omega)]
  split <;> rfl
 | succ d ih =>
  intro k i hd hi hk
  obtain⟨k,rfl⟩ : ∃ m,k=m + 1:=⟨k - 1,by omega⟩;have e0:s.size - (d + 1)=i:=by omega
  simp only[qxj.l0,idN,e0,sletter_eq,sdigit_eq,Option.bind_some];rw[if_pos (by omega),if_pos (by omega),w64 (by omega) (by omega),show((i:Int) + 1)=((i + 1:Nat):Int) from rfl,ih k (i + 1) (by omega) (by omega) (by omega)];unfold idC
  split
  ·simp only[if_true]
  ·split
   ·simp only[if_true]
   ·split
    ·simp only[if_true]
    ·split
     ·simp only[if_true]
     ·split <;> simp only[if_true,Bool.false_eq_true,if_false]
theorem ygoodId_l0 (s:ByteArray) (hs:s.size≤9223372036854775807) (d:Nat):∀ (k i:Nat),s.size - i=d→i≤s.size→d < k→xq.l0 k s (s.size:Int) i=some (idN s d):=by
 induction d with
 | zero =>
  intro k i hd hi hk
  obtain⟨k,rfl⟩ : ∃ m,k=m + 1:=⟨k - 1,by omega⟩;simp only[xq.l0];rw[if_neg (by omega)]
  rfl
 | succ d ih =>
  intro k i hd hi hk
  obtain⟨k,rfl⟩ : ∃ m,k=m + 1:=⟨k - 1,by omega⟩;have e0:s.size - (d + 1)=i:=by omega
  simp only[xq.l0,idN,e0,xx.f,iletter_eq,idigit_eq,Option.bind_some];rw[if_pos (by omega),if_pos (by omega),if_pos (by omega),w64 (by omega) (by omega),show((i:Int) + 1)=((i + 1:Nat):Int) from rfl,ih k (i + 1) (by omega) (by omega) (by omega)];unfold idC
  by_cases h1:letC (bt s (i:Int))=true
  ·simp only[h1,if_true,Option.bind_some]
  ·simp only[h1,Bool.false_eq_true,if_false]
   by_cases h2:digC (bt s (i:Int))=true
   ·simp only[h2,if_true,Option.bind_some]
   ·simp only[h2,Bool.false_eq_true,if_false,Option.bind_some,beq_iff_eq]
    by_cases h3:bt s (i:Int)=95
    ·simp only[h3,if_true]
    ·simp only[h3,if_false]
     by_cases h4:bt s (i:Int)=45
     ·simp only[h4,if_true]
     ·simp only[h4,if_false]
      by_cases h5:bt s (i:Int)=46
      ·simp only[h5,if_true]
      ·simp only[h5,if_false,Bool.false_eq_true]
def goodId (s:ByteArray):Bool:=idN s s.size && (decide (1≤s.size) && decide (s.size≤40))
theorem specId_ev (s:ByteArray) (hs:s.size≤9223372036854775807):Ev (fun k=>qxj.f k s) (goodId s):=by
 refine⟨s.size + 1,fun k hk=>?_⟩
 show qxj.f k s=_
 unfold qxj.f;have e:=l7Id_l0 s hs s.size k 0 (by omega) (by omega) (by omega);rw[show(0:Int)=((0:Nat):Int) from rfl,e]
 congr 1
 unfold goodId
 cases idN s s.size with
 | false=>rfl
 | true =>
  simp only[if_true,Bool.true_and]
  by_cases h : 1≤s.size
  ·rw[if_pos (by omega),decide_eq_true h,Bool.true_and,decide_eq_decide];omega
  ·rw[if_neg (by omega),decide_eq_false h,Bool.false_and]
theorem implId_ev (s:ByteArray) (hs:s.size≤9223372036854775807):Ev (fun k=>xq.f k s) (goodId s):=by
 refine⟨s.size + 2,fun k hk=>?_⟩
 show xq.f k s=_
 obtain⟨k,rfl⟩ : ∃ m,k=m + 1:=⟨k - 1,by omega⟩;unfold xq.f goodId
 by_cases h1 : 1≤s.size
 ·by_cases h2:s.size≤40
  ·rw[if_neg (by omega),decide_eq_false (by omega),decide_eq_true h1,decide_eq_true h2];simp only[xq.j0,Bool.false_eq_true,if_false,Bool.and_true];exact ygoodId_l0 s hs s.size k 0 (by omega) (by omega) (by omega)
  ·rw[if_neg (by omega),decide_eq_true (by omega),decide_eq_false h2];simp only[xq.j0,if_true,Bool.and_false]
 ·rw[if_pos (by omega),decide_eq_false h1];simp only[xq.j0,if_true,Bool.false_and,Bool.and_false]
open Go.RowKit Go.Proofs.YtnbbbjfjkhglhaaGreatDoorW.PrintWords Go.Proofs.YtnbbbjfjkhglhaaGreatDoorW.PrintLast Go.Proofs.YtnbbbjfjkhglhaaGreatDoorW.PrintMore
attribute [local go_sem] max2_int min2_int max_two min_two max_three min_three max_four min_four
set_option linter.unusedSimpArgs false
def bitv (data:List Int) (i:Nat):Int:=if i / 8 < data.length then rd data ((i / 8:Nat):Int) / 2 ^ (7 - i % 8) % 2 else 0
def val (data:List Int) (i:Nat):Nat→Int
 | 0=>0
 | n + 1=>2 * val data i n + bitv data (i + n)
theorem Ev.upW {α:Type} {g:Nat→Option α} {r : α} (h:Ev (fun k=>g (k + 1)) r):Ev g r:=by
 obtain⟨n,h⟩:=h;refine⟨n + 1,fun k hk=>?_⟩;obtain⟨k,rfl⟩ : ∃ m,k=m + 1:=⟨k - 1,by omega⟩;exact h k (by omega)
theorem wrap_succ {i n:Nat} (h:i < n) (hn:n≤281474976710656):wrap64 ((i:Int) + 1)=((i + 1:Nat):Int):=by rw[w64 (by omega) (by omega)];rfl
theorem rows_sz {α:Type} (l:List α) (ok small : α→Prop) (F:Nat→Int→Int→Option Int) (g:Nat→α→Int→Option Int) (hlen:l.length≤1048576)
  (hstop:∀ k x,F (k + 1) x (l.length:Int)=some x)
  (hstep:∀ (k:Nat) (i:Nat) (h:i < l.length) (x:Int),F (k + 1) x (i:Int)=(g k l[i] x).bind fun t=>if t < 0 then some (-1) else F k t ((i + 1:Nat):Int))
  (hok:∀ e ∈ l,ok e) (hg:∀ e,ok e→∀ left:Int,0≤left→left≤1048576→∃ r:Int,Ev (fun k=>g k e left) r∧r≤1048576∧(¬ r < 0→small e)) (d:Nat) :
  ∀ (i:Nat) (left:Int),i + d=l.length→0≤left→left≤1048576→∃ r:Int,Ev (fun k=>F k left (i:Int)) r∧r≤1048576∧(¬ r < 0→∀ j (h:j < l.length),i≤j→small l[j]):=by
 induction d with
 | zero =>
  intro i left hi h0 h1
  obtain rfl:i=l.length:=by omega
  refine⟨left,Ev.upW ?_,h1,fun _ j hj hij=>by omega⟩;simp only[hstop];exact Ev.now _
 | succ d ih =>
  intro i left hi h0 h1
  have hlt:i < l.length:=by omega
  obtain⟨r1,e1,hr1,hs1⟩:=hg l[i] (hok _ (List.getElem_mem hlt)) left h0 h1
  by_cases hneg:r1 < 0
  ·refine⟨-1,Ev.upW ?_,by omega,fun h=>by omega⟩;simp only[hstep _ i hlt];refine Ev.bind e1 ?_;simp only[if_pos hneg];exact Ev.now _
  ·obtain⟨r,er,hr1',hr⟩:=ih (i + 1) r1 (by omega) (by omega) hr1;refine⟨r,Ev.upW ?_,hr1',fun hn j hj hij=>?_⟩
   ·simp only[hstep _ i hlt];refine Ev.bind e1 ?_;simp only[if_neg hneg];exact er
   ·by_cases hji:j=i
    ·subst hji;exact hs1 hneg
    ·exact hr hn j hj (by omega)
theorem rows_szf {α:Type} (l:List α) (ok small : α→Prop) (G:Nat→Int→Option Int) (F:Nat→Int→Int→Option Int) (g:Nat→α→Int→Option Int) (left:Int) (h0 : 0≤left) (h1:left≤1048576) (hmax:l.length≤9223372036854775807)
  (hG:∀ k,G k left=if wrap64 (left - (l.length:Int)) < 0 then some (-1) else F k (wrap64 (left - (l.length:Int))) 0)
  (hstop:∀ k x,F (k + 1) x (l.length:Int)=some x)
  (hstep:l.length≤1048576→∀ (k:Nat) (i:Nat) (h:i < l.length) (x:Int),F (k + 1) x (i:Int)=(g k l[i] x).bind fun t=>if t < 0 then some (-1) else F k t ((i + 1:Nat):Int))
  (hok:∀ e ∈ l,ok e) (hg:∀ e,ok e→∀ left:Int,0≤left→left≤1048576→∃ r:Int,Ev (fun k=>g k e left) r∧r≤1048576∧(¬ r < 0→small e)) :
  ∃ r:Int,Ev (fun k=>G k left) r∧r≤1048576∧(¬ r < 0→l.length≤1048576∧∀ e ∈ l,small e):=by
 have ew:wrap64 (left - (l.length:Int))=left - (l.length:Int):=w64 (by omega) (by omega)
 by_cases h:(l.length:Int)≤left
 ·obtain⟨r,er,hr1,hr⟩:=rows_sz l ok small F g (by omega) hstop (hstep (by omega)) hok hg l.length 0 (left - (l.length:Int)) (by omega) (by omega) (by omega);refine⟨r,?_,hr1,fun hn=>⟨by omega,fun e he=>?_⟩⟩
  ·simp only[hG,ew,if_neg (show ¬ left - (l.length:Int) < 0 by omega)];exact er
  ·obtain⟨j,hj,rfl⟩:=List.getElem_of_mem he;exact hr hn j hj (by omega)
 ·refine⟨-1,?_,by omega,fun hn=>by omega⟩;simp only[hG,ew,if_pos (show left - (l.length:Int) < 0 by omega)];exact Ev.now _
theorem set_midW {α:Type} (A:List α) (z v : α) (m i:Nat) (h:A.length=i):(A ++ List.replicate (m + 1) z).set i v=(A ++ [v]) ++ List.replicate m z:=by
 subst h;rw[List.set_append_right _ _ (Nat.le_refl _),Nat.sub_self,List.replicate_succ,jq6,List.append_assoc]
 rfl
theorem rows_to {α β γ:Type} (l:List α) (z : β) (F:Nat→List β→Int→Option (List β)) (g:Nat→α→Option γ) (mk : γ→β) (cp : α→β) (hlen:l.length≤1048576)
  (hstop:∀ k x,F (k + 1) x (l.length:Int)=some x)
  (hstep:∀ (k:Nat) (i:Nat) (h:i < l.length) (x:List β),x.length=l.length→F (k + 1) x (i:Int)=(g k l[i]).bind fun t=>F k (x.set i (mk t)) ((i + 1:Nat):Int))
  (hg:∀ e ∈ l,∃ t,Ev (fun k=>g k e) t∧mk t=cp e) (d:Nat) :
  ∀ i,i + d=l.length→Ev (fun k=>F k ((l.take i).map cp ++ List.replicate d z) (i:Int)) (l.map cp):=by
 induction d with
 | zero =>
  intro i hi
  obtain rfl:i=l.length:=by omega
  refine Ev.upW ?_;simp only[hstop];rw[List.take_length,List.replicate_zero,List.append_nil];exact Ev.now _
 | succ d ih =>
  intro i hi
  have hlt:i < l.length:=by omega
  obtain⟨t,et,ht⟩:=hg _ (List.getElem_mem hlt);have hlA:((l.take i).map cp).length=i:=by rw[List.length_map,jq4];omega
  have hl3:((l.take i).map cp ++ List.replicate (d + 1) z).length=l.length:=by rw[List.length_append,hlA,List.length_replicate];omega
  refine Ev.upW ?_;simp only[hstep _ i hlt _ hl3];refine Ev.bind et ?_;rw[ht,set_midW _ _ _ _ _ hlA];have hn:=ih (i + 1) (by omega);rw[List.take_succ_eq_append_getElem hlt,List.map_append,List.map_singleton] at hn;exact hn
theorem rows_eq {α:Type} (l:List α) (F:Nat→Int→Option Bool) (g:Nat→α→Option Bool) (hlen:l.length≤1048576)
  (hstop:∀ k,F (k + 1) (l.length:Int)=some true)
  (hstep:∀ (k:Nat) (i:Nat) (h:i < l.length),F (k + 1) (i:Int)=(g k l[i]).bind fun t=>if t=true then F k ((i + 1:Nat):Int) else some false)
  (hg:∀ e ∈ l,Ev (fun k=>g k e) true) (d:Nat):∀ i,i + d=l.length→Ev (fun k=>F k (i:Int)) true:=by
 induction d with
 | zero =>
  intro i hi
  obtain rfl:i=l.length:=by omega
  refine Ev.upW ?_;simp only[hstop];exact Ev.now _
 | succ d ih =>
  intro i hi
  have hlt:i < l.length:=by omega
  refine Ev.upW ?_;simp only[hstep _ i hlt];refine Ev.bind (hg _ (List.getElem_mem hlt)) ?_;simp only[if_true];exact ih (i + 1) (by omega)
open Go.RowKit Go.Proofs.YtnbbbjfjkhglhaaGreatDoor.Read Go.Proofs.YtnbbbjfjkhglhaaGreatDoorW.PrintWords Go.Proofs.YtnbbbjfjkhglhaaGreatDoorW.PrintLast Go.Proofs.YtnbbbjfjkhglhaaGreatDoorW.PrintMore
instance (l:List Int):Decidable (isBytes l):=by unfold isBytes;infer_instance
def okT (x:S30):Prop:=okS x.f0∧okS x.f2∧okI x.f3.f1∧okS x.f3.f2∧okS x.f3.f3
def gT (x:S30):Bool:=goodTerm x.f0 x.f1 x.f2 x.f3.f0 x.f3.f1 x.f3.f2 x.f3.f3
def sT (x:S30):ByteArray:=termS x.f0 x.f1 x.f2 x.f3.f0 x.f3.f1 x.f3.f2 x.f3.f3
def goodCap (id:ByteArray) (l:List S30) (tag:List Int):Bool:=goodId id && (decide (l.length≤20) && (decide (tag.length=16) && l.all gT))
theorem rdT_nat {l:List S30} {i:Nat} (h:i < l.length):kw l (i:Int)=l[i]:=by simp[kw,List.getD_eq_getElem?_getD,List.getElem?_eq_getElem h]
theorem specT_ev (x:S30) (h:okT x):Ev (fun k=>qvq.f k x.f0 x.f1 x.f2 x.f3.f0 x.f3.f1 x.f3.f2 x.f3.f3) (gT x):=specTerm_ev _ _ _ _ _ _ _ h.1 h.2.1 h.2.2.1 h.2.2.2.1 h.2.2.2.2
theorem implT_ev (x:S30) (h:okT x):Ev (fun k=>xz.f k x.f0 x.f1 x.f2 x.f3.f0 x.f3.f1 x.f3.f2 x.f3.f3) (gT x):=implTerm_ev _ _ _ _ _ _ _ h.1 h.2.1 h.2.2.1 h.2.2.2.1 h.2.2.2.2
theorem specTT_ev (x:S30) (h:okT x):Ev (fun k=>qkw.f k x.f0 x.f1 x.f2 x.f3.f0 x.f3.f1 x.f3.f2 x.f3.f3) (sT x):=specTermText_ev _ _ _ _ _ _ _ h.1 h.2.1 h.2.2.1 h.2.2.2.1 h.2.2.2.2
theorem implTT_ev (x:S30) (h:okT x):Ev (fun k=>wj.f k x.f0 x.f1 x.f2 x.f3.f0 x.f3.f1 x.f3.f2 x.f3.f3) (sT x):=implTermText_ev _ _ _ _ _ _ _ h.1 h.2.1 h.2.2.1 h.2.2.2.1 h.2.2.2.2
theorem has_ev:∀ (l:List S30),(∀ x ∈ l,okT x)→Ev (fun k=>has_impl_ygoodCap_1.f k l) (!l.all gT)
 | [],_=>Ev.now _
 | x :: xs,h=>by
  have ih:=has_ev xs (fun y hy=>h y (List.mem_cons_of_mem _ hy))
  show Ev (fun k=>((xz.f k x.f0 x.f1 x.f2 x.f3.f0 x.f3.f1 x.f3.f2 x.f3.f3).bind fun t=>some (!t)).bind fun b=>if b=true then some true else has_impl_ygoodCap_1.f k xs) _
  simp only[Option.bind_assoc,Option.bind_some];refine Ev.bind (implT_ev x (h x List.mem_cons_self)) ?_;rw[List.all_cons]
  cases gT x
  ·simp only[Bool.not_false,if_true,Bool.false_and];exact Ev.now _
  ·simp only[Bool.not_true,Bool.false_eq_true,if_false,Bool.true_and];exact ih
theorem implCap_ev (id:ByteArray) (l:List S30) (tag:List Int) (hi:okS id) (h:∀ x ∈ l,okT x):Ev (fun k=>ww.f k id l tag) (goodCap id l tag):=by
 simp only[ww.f];refine Ev.bind (implId_ev id hi) ?_;unfold goodCap
 cases goodId id
 case false=>simp only[Bool.false_eq_true,if_false,Bool.false_and];exact Ev.now _
 simp only[if_true,Bool.true_and]
 by_cases h20:l.length≤20
 case neg=>simp only[if_neg (show ¬ (l.length:Int)≤20 by omega),decide_eq_false h20,Bool.false_and];exact Ev.now _
 simp only[if_pos (show(l.length:Int)≤20 by omega),decide_eq_true h20,Bool.true_and]
 by_cases h16:tag.length=16
 case neg=>simp only[if_neg (show ¬ (tag.length:Int)=16 by omega),decide_eq_false h16,Bool.false_and];exact Ev.now _
 simp only[if_pos (show(tag.length:Int)=16 by omega),decide_eq_true h16,Bool.true_and];refine Ev.bind (has_ev l h) ?_;rw[Bool.not_not];exact Ev.now _
theorem specGood_l0 (id:ByteArray) (l:List S30) (tag:List Int) (hi:okS id) (h:∀ x ∈ l,okT x) (hlen:l.length≤1048576) (d:Nat):∀ i,i + d=l.length→Ev (fun k=>qkx.l0 k l (l.length:Int) (i:Int) id l tag) ((l.drop i).all gT && (goodId id && (decide (l.length≤20) && decide (tag.length=16)))):=by
 induction d with
 | zero =>
  intro i e
  obtain rfl:i=l.length:=by omega
  refine Ev.upW ?_;simp only[qkx.l0,if_neg (Int.lt_irrefl _)];rw[List.drop_length,List.all_nil,Bool.true_and];refine Ev.bind (specId_ev id hi) ?_
  cases goodId id
  case false=>simp only[Bool.false_eq_true,if_false,Bool.false_and];exact Ev.now _
  simp only[if_true,Bool.true_and]
  by_cases h20:l.length≤20
  case neg=>simp only[if_neg (show ¬ (l.length:Int)≤20 by omega),decide_eq_false h20,Bool.false_and];exact Ev.now _
  simp only[if_pos (show(l.length:Int)≤20 by omega),decide_eq_true h20,Bool.true_and];have:((tag.length:Int) == 16)=decide (tag.length=16):=by rw[Bool.eq_iff_iff,beq_iff_eq,decide_eq_true_eq];omega
  rw[this];exact Ev.now _
 | succ d ih =>
  intro i e
  have hlt:i < l.length:=by omega
  refine Ev.upW ?_;simp only[qkx.l0,if_pos (show(i:Int) < (l.length:Int) by omega),if_pos (Int.natCast_nonneg i),rdT_nat hlt,wrap_succ hlt (by omega)];refine Ev.bind (specT_ev _ (h _ (List.getElem_mem hlt))) ?_;rw[List.drop_eq_getElem_cons hlt,List.all_cons]
  cases gT l[i]
  case false=>simp only[Bool.false_eq_true,if_false,Bool.false_and];exact Ev.now _
  simp only[if_true,Bool.true_and];exact ih (i + 1) (by omega)
theorem specGood_ev (id:ByteArray) (l:List S30) (tag:List Int) (hi:okS id) (h:∀ x ∈ l,okT x) (hlen:l.length≤1048576):Ev (fun k=>qkx.f k id l tag) (goodCap id l tag):=by
 have:=specGood_l0 id l tag hi h hlen l.length 0 (by omega);rw[List.drop_zero] at this;simp only[qkx.f]
 have e:goodCap id l tag=(l.all gT && (goodId id && (decide (l.length≤20) && decide (tag.length=16)))):=by
  unfold goodCap
  cases goodId id <;> cases decide (l.length≤20) <;> cases decide (tag.length=16) <;> cases l.all gT <;> rfl
 rw[e];exact this
theorem line_le {x:S30} (h:okT x) (hg:gT x=true):(sT x).size≤540:=by
 unfold gT at hg;obtain⟨q1,q2,q3⟩:=goodTerm_parts hg;have q4:=textB_le q2 h.2.2.1;have q5:=opAt_size x.f1;have z1:(⟨#[32]⟩ : ByteArray).size=1:=rfl;unfold sT termS termB;rw[if_pos hg];simp only[ByteArray.size_append]
 omega
theorem goodCap_parts {id:ByteArray} {l:List S30} {tag:List Int} (h:goodCap id l tag=true):id.size≤40∧l.length≤20∧tag.length=16∧l.all gT=true:=by
 unfold goodCap goodId at h;simp only[Bool.and_eq_true,decide_eq_true_eq] at h;exact⟨h.1.2.2,h.2.1,h.2.2.1,h.2.2.2⟩
def inP (a:List Int):Prop:=a.length=4∧∀ j,j < 4→0≤a.getD j 0∧a.getD j 0 < 2147483579
theorem inP_start:inP [11,22,33,44]:=⟨rfl,by decide⟩
theorem inP_mix {a:List Int} (h:inP a) (x:Int) (hx : 0≤x):inP (dgMix a x):=⟨by rw[dgMix,mix_len,h.1],mix_bd a x hx h.1 h.2 4 (by omega)⟩
theorem dgAll_cons (a:List Int) (x:Int) (l:List Int):dgAll a (x :: l)=dgAll (dgMix a x) l:=rfl
theorem mt_at (i:Nat) (h:i < 4):rd [1103515245,69069,1664525,22695477] (i:Int)=mulT.getD i 0:=by
 match i,h with
 | 0,_=>rfl
 | 1,_=>rfl
 | 2,_=>rfl
 | 3,_=>rfl
theorem rd_getD (l:List Int) (i:Nat):rd l (i:Int)=l.getD i 0:=by simp[rd]
theorem specMix_step (l:List Int) (h:inP l) (x:Int) (hx : 0≤x∧x≤255) (i:Nat) (hi:i < 4) (k:Nat) :
  qwx.l0 (k + 1) (mixN l x i) x [1103515245,69069,1664525,22695477] i=qwx.l0 k (mixN l x (i + 1)) x [1103515245,69069,1664525,22695477] ((i + 1:Nat):Int):=by
 have hlen:(mixN l x i).length=4:=by rw[mix_len,h.1]
 have b1:=mix_bd l x hx.1 h.1 h.2 i (by omega) i hi;have b2:=mix_bd l x hx.1 h.1 h.2 i (by omega) ((i + 1) % 4) (by omega);have b3:=mulOk i hi;simp only[qwx.l0];rw[w64 (n:=(i:Int) + 1) (by omega) (by omega)];have e6:Int.tmod ((i:Int) + 1) 4=((i + 1) % 4:Nat):=by rw[Int.tmod_eq_emod_of_nonneg (by omega)];omega
 rw[e6,mt_at i hi,rd_getD,rd_getD];obtain⟨p1,e1⟩ : ∃ p,p=(mixN l x i).getD i 0:=⟨_,rfl⟩;obtain⟨p2,e2⟩ : ∃ p,p=(mixN l x i).getD ((i + 1) % 4) 0:=⟨_,rfl⟩;obtain⟨p3,e3⟩ : ∃ p,p=mulT.getD i 0:=⟨_,rfl⟩;have e5:mixN l x (i + 1)=(mixN l x i).set i ((p1 * p3 + x + 1 + p2) % 2147483579):=by rw[e1,e2,e3];rfl
 rw[e5,← e1,← e2,← e3];rw[← e1] at b1;rw[← e2] at b2;rw[← e3] at b3
 have b4:=prod_bd b1.1 b1.2 b3.1 b3.2;rw[if_pos (by omega),if_pos (by omega),if_pos (by omega),if_pos (by simp;omega),if_pos (by omega),if_pos (by omega),w64 (n:=p1 * p3) (by omega) (by omega),w64 (n:=p1 * p3 + x) (by omega) (by omega),w64 (n:=p1 * p3 + x + 1) (by omega) (by omega),w64 (by omega) (by omega),Int.tmod_eq_emod_of_nonneg (by omega),Int.toNat_natCast]
 rfl
theorem specMix_eq (l:List Int) (h:inP l) (x:Int) (hx : 0≤x∧x≤255) (k:Nat) (hk : 5≤k):qwx.f k l x=some (dgMix l x):=by
 obtain⟨k,rfl⟩ : ∃ m,k=m + 5:=⟨k - 5,by omega⟩;unfold qwx.f;have e0:=specMix_step l h x hx 0 (by omega) (k + 4);have e1:=specMix_step l h x hx 1 (by omega) (k + 3);have e2:=specMix_step l h x hx 2 (by omega) (k + 2);have e3:=specMix_step l h x hx 3 (by omega) (k + 1)
 have e4:qwx.l0 (k + 1) (mixN l x 4) x [1103515245,69069,1664525,22695477] ((3 + 1:Nat):Int)=some (mixN l x 4):=by
  simp only[qwx.l0];rw[if_neg (by omega)]
 exact e0.trans (e1.trans (e2.trans (e3.trans e4)))
theorem tm256 (n:Int) (h : 0≤n):Int.tmod n 256 % 256=n % 256:=by rw[Int.tmod_eq_emod_of_nonneg h];omega
theorem td256 (n:Int) (h : 0≤n) (h2:n≤9223372036854775807):wrap64 (Int.tdiv n 256)=n / 256:=by
 rw[Int.tdiv_eq_ediv_of_nonneg h,w64 (by omega) (by omega)]
theorem specBytes_eq (n:Int) (h : 0≤n) (h2:n≤9223372036854775807) (k:Nat) (hk : 5≤k):qwk.f k n=some (yb n):=by
 obtain⟨k,rfl⟩ : ∃ m,k=m + 5:=⟨k - 5,by omega⟩;unfold qwk.f;rw[if_pos (by omega)];simp only[Option.bind_some,List.length_replicate];simp only[qwk.l0];have a1:=td256 n h h2;have a2:=td256 (n / 256) (by omega) (by omega);have a3:=td256 (n / 256 / 256) (by omega) (by omega);have w1:wrap64 ((0:Int) + 1)=1:=by unfold wrap64;omega
 have w2:wrap64 ((1:Int) + 1)=2:=by unfold wrap64;omega
 have w3:wrap64 ((2:Int) + 1)=3:=by unfold wrap64;omega
 have w4:wrap64 ((3:Int) + 1)=4:=by unfold wrap64;omega
 rw[w1,w2,w3,w4,a1,a2,a3,tm256 n h,tm256 _ (by omega),tm256 _ (by omega),tm256 _ (by omega)];simp[yb,List.replicate]
 omega
theorem specDig_l3 (a:List Int) (h:inP a):∀ (k:Nat),10≤k→qwv.l3 k [] a (a.length:Int) 0=some (a.flatMap yb):=by
 intro k hk
 obtain⟨k,rfl⟩ : ∃ m,k=m + 10:=⟨k - 10,by omega⟩;obtain⟨hl,hb⟩:=h
 match a,hl with
 | [b0,b1,b2,b3],_ =>
  have h0:=hb 0 (by omega);have h1:=hb 1 (by omega);have h2:=hb 2 (by omega);have h3:=hb 3 (by omega);simp only[List.getD_cons_zero,List.getD_cons_succ] at h0 h1 h2 h3;have w1:wrap64 ((0:Int) + 1)=1:=by unfold wrap64;omega
  have w2:wrap64 ((1:Int) + 1)=2:=by unfold wrap64;omega
  have w3:wrap64 ((2:Int) + 1)=3:=by unfold wrap64;omega
  have w4:wrap64 ((3:Int) + 1)=4:=by unfold wrap64;omega
  have r0:rd [b0,b1,b2,b3] 0=b0:=rfl;have r1:rd [b0,b1,b2,b3] 1=b1:=rfl;have r2:rd [b0,b1,b2,b3] 2=b2:=rfl;have r3:rd [b0,b1,b2,b3] 3=b3:=rfl;simp only[qwv.l3,w1,w2,w3,w4,r0,r1,r2,r3];rw[specBytes_eq b0 (by omega) (by omega) _ (by omega),specBytes_eq b1 (by omega) (by omega) _ (by omega),specBytes_eq b2 (by omega) (by omega) _ (by omega),specBytes_eq b3 (by omega) (by omega) _ (by omega)];simp[yb]
theorem specDig_l2 (d:Nat):∀ (a:List Int) (k i:Nat),inP a→i + d=8→d + 12≤k→qwv.l2 k a i=some ((dgAll a (List.replicate d 0)).flatMap yb):=by
 induction d with
 | zero =>
  intro a k i h hi hk
  obtain⟨k,rfl⟩ : ∃ m,k=m + 1:=⟨k - 1,by omega⟩;simp only[qwv.l2];rw[if_neg (by omega),specDig_l3 a h k (by omega)];rfl
 | succ d ih =>
  intro a k i h hi hk
  obtain⟨k,rfl⟩ : ∃ m,k=m + 1:=⟨k - 1,by omega⟩;simp only[qwv.l2];rw[if_pos (by omega),specMix_eq a h 0 (by omega) k (by omega)];simp only[Option.bind_some];rw[w64 (by omega) (by omega),show((i:Int) + 1)=((i + 1:Nat):Int) from rfl,ih (dgMix a 0) k (i + 1) (inP_mix h 0 (by omega)) (by omega) (by omega)]
  rfl
theorem wbyte {x:Int} (h : 0≤x∧x≤255):wrap64 x=x:=w64 (by omega) (by omega)
theorem drop_rd {l:List Int} {i:Nat} (h:i < l.length):l.drop i=rd l i :: l.drop (i + 1):=by rw[List.drop_eq_getElem_cons h,rd_nat h]
theorem specDig_l1 (xs:List Int) (hx:isBytes xs) (hl:xs.length≤1000000000) (d:Nat):∀ (a:List Int) (k i:Nat),inP a→i + d=xs.length→d + 24≤k →
  qwv.l1 k a xs (xs.length:Int) i=some ((dgAll (dgAll a (xs.drop i)) (List.replicate 8 0)).flatMap yb):=by
 induction d with
 | zero =>
  intro a k i h hi hk
  obtain⟨k,rfl⟩ : ∃ m,k=m + 1:=⟨k - 1,by omega⟩;simp only[qwv.l1];rw[if_neg (by omega),List.drop_of_length_le (by omega)];exact specDig_l2 8 a k 0 h (by omega) (by omega)
 | succ d ih =>
  intro a k i h hi hk
  obtain⟨k,rfl⟩ : ∃ m,k=m + 1:=⟨k - 1,by omega⟩;have hlt:i < xs.length:=by omega
  have hb:=hx (rd xs i) (rd_mem hlt);simp only[qwv.l1];rw[if_pos (by omega),if_pos (by omega),if_pos (by omega),wbyte hb,specMix_eq a h _ hb k (by omega)];simp only[Option.bind_some];rw[w64 (by omega) (by omega),show((i:Int) + 1)=((i + 1:Nat):Int) from rfl,ih _ k (i + 1) (inP_mix h _ hb.1) (by omega) (by omega),drop_rd hlt,dgAll_cons]
theorem specDig_l0 (xs ys:List Int) (hx:isBytes xs) (hl:xs.length≤1000000000) (hly:ys.length≤1000000000) (d:Nat):∀ (a:List Int) (k i:Nat),inP a→i + d=xs.length→d + 40≤k →
  qwv.l0 k ys a xs (xs.length:Int) i=some ((dgAll (dgAll (dgAll a (xs.drop i)) (yb ys.length)) (List.replicate 8 0)).flatMap yb):=by
 induction d with
 | zero =>
  intro a k i h hi hk
  obtain⟨k,rfl⟩ : ∃ m,k=m + 1:=⟨k - 1,by omega⟩;simp only[qwv.l0];rw[if_neg (by omega),List.drop_of_length_le (by omega),specBytes_eq _ (by omega) (by omega) k (by omega)];exact specDig_l1 (yb ys.length) (yb_bytes _) (by rw[yb_len];omega) 4 a k 0 h (by rw[yb_len]) (by omega)
 | succ d ih =>
  intro a k i h hi hk
  obtain⟨k,rfl⟩ : ∃ m,k=m + 1:=⟨k - 1,by omega⟩;have hlt:i < xs.length:=by omega
  have hb:=hx (rd xs i) (rd_mem hlt);simp only[qwv.l0];rw[if_pos (by omega),if_pos (by omega),if_pos (by omega),wbyte hb,specMix_eq a h _ hb k (by omega)];simp only[Option.bind_some];rw[w64 (by omega) (by omega),show((i:Int) + 1)=((i + 1:Nat):Int) from rfl,ih _ k (i + 1) (inP_mix h _ hb.1) (by omega) (by omega),drop_rd hlt,dgAll_cons]
theorem specDigest_eq (l:List Int) (h:isBytes l) (hl:l.length≤1000000000) (k:Nat) (hk:l.length + 40≤k):qwv.f k l=some (dg l):=by
 have:=specDig_l0 l l h hl hl l.length [11,22,33,44] k 0 inP_start (by omega) hk
 simpa [qwv.f,dg,dgS] using this
theorem specDigest_ev (l:List Int) (h:isBytes l) (hl:l.length≤1000000000):Ev (fun k=>qwv.f k l) (dg l):=⟨_,fun k hk=>specDigest_eq l h hl k hk⟩
theorem isBytes_flatMap_yb (a:List Int):isBytes (a.flatMap yb):=by
 intro x hx
 obtain⟨n,_,hn⟩:=List.mem_flatMap.1 hx;exact yb_bytes n x hn
theorem dg_bytes (l:List Int):isBytes (dg l):=isBytes_flatMap_yb _
theorem dgAll_len:∀ (l a:List Int),(dgAll a l).length=a.length
 | [],_=>rfl
 | x :: l,a=>by rw[dgAll_cons,dgAll_len l,dgMix,mix_len]
theorem dg_len (l:List Int):(dg l).length=16:=by
 have h:(dgS l).length=4:=by simp[dgS,dgAll_len]
 unfold dg
 match dgS l,h with
 | [b0,b1,b2,b3],_=>rfl
theorem isBytes_append {a b:List Int} (h:isBytes a) (h2:isBytes b):isBytes (a ++ b):=fun x hx=>(List.mem_append.1 hx).elim (h x) (h2 x)
theorem implDigest_eq (l:List Int) (h:isBytes l) (hl:l.length≤20000):vw.f l=some (dg l):=by
 unfold vw.f;rw[if_pos h,if_neg (by omega)]
theorem bytesOf_isBytes (s:ByteArray):isBytes (bytesOf s):=by
 intro x hx
 simp only[bytesOf,List.mem_map] at hx;obtain⟨b,_,rfl⟩:=hx;have:=b.toNat_lt
 omega
def macL (key data:List Int):List Int:=dg (dg key ++ dg data)
theorem Ev.up2 {α:Type} {g:Nat→Option α} {r : α} (h:Ev (fun k=>g (k + 1)) r):Ev g r:=by
 obtain⟨n,hn⟩:=h;refine⟨n + 1,fun k hk=>?_⟩;obtain⟨k,rfl⟩ : ∃ m,k=m + 1:=⟨k - 1,by omega⟩;exact hn k (by omega)
theorem macTwo_ev (a b:List Int) (ha:isBytes a) (hb:isBytes b) (la:a.length≤100000000) (lb:b.length≤100000000):Ev (fun k=>qxq.f k a b) (dg (a ++ b)):=by
 have hab:=specDigest_ev (a ++ b) (isBytes_append ha hb) (by rw[List.length_append];omega);simp only[qxq.f,List.length_nil,if_pos (show 0 + a.length < 140737488355328 by omega),List.nil_append,Option.bind_some,if_pos (show a.length + b.length < 140737488355328 by omega)];exact Ev.bind hab (Ev.now _)
theorem macS_ev (a b:List Int) (ha:isBytes a) (hb:isBytes b) (la:a.length≤100000000) (lb:b.length≤100000000):Ev (fun k=>qww.f k a b) (macL a b):=by
 simp only[qww.f];refine Ev.bind (specDigest_ev a ha (by omega)) ?_;refine Ev.bind (specDigest_ev b hb (by omega)) ?_;exact Ev.bind (macTwo_ev _ _ (dg_bytes a) (dg_bytes b) (by rw[dg_len];omega) (by rw[dg_len];omega)) (Ev.now _)
theorem macI_ev (a b:List Int) (ha:isBytes a) (hb:isBytes b) (la:a.length≤20000) (lb:b.length≤20000):Ev (fun k=>wz.f k a b) (macL a b):=by
 refine Ev.up2 ?_;simp only[wz.f,if_neg (show ¬ ((a.length:Int) > 20000) by omega),decide_eq_false (show ¬ ((b.length:Int) > 20000) by omega),wz.j0,Bool.false_eq_true,if_false,implDigest_eq a ha la,implDigest_eq b hb lb,Option.bind_some,if_pos (show(dg a).length + (dg b).length < 140737488355328 by rw[dg_len,dg_len];omega),implDigest_eq _ (isBytes_append (dg_bytes a) (dg_bytes b)) (show(dg a ++ dg b).length≤20000 by rw[List.length_append,dg_len,dg_len];omega)];exact Ev.now _
theorem mac_len (a b:List Int):(macL a b).length=16:=dg_len _
theorem bytesS_eq (s:ByteArray) (h:s.size≤9223372036854775807):bytesOfS.f s=some (bytesOf s):=by unfold bytesOfS.f;rw[if_pos h]
def attOk (id:ByteArray) (l:List S30) (tag:List Int) (x:S30):Bool:=goodCap id l tag && (gT x && decide (l.length + 1≤20))
def attS (id:ByteArray) (l:List S30) (tag:List Int) (x:S30):ByteArray × List S30 × List Int:=if attOk id l tag x=true then(id,l ++ [x],macL tag (bytesOf (sT x))) else(⟨#[]⟩,[],[])
theorem good_more (id:ByteArray) (l:List S30) (tag:List Int) (x:S30) (h:goodCap id l tag=true):goodCap id (l ++ [x]) tag=(gT x && decide (l.length + 1≤20)):=by
 unfold goodCap at h ⊢;simp only[Bool.and_eq_true,decide_eq_true_eq] at h;obtain⟨h1,h2,h3,h4⟩:=h;rw[h1,decide_eq_true h3,List.all_append,h4,List.length_append,List.length_singleton];simp only[List.all_cons,List.all_nil,Bool.and_true,Bool.true_and]
 cases gT x <;> cases decide (l.length + 1≤20) <;> rfl
theorem sT_small {x:S30} (h:okT x) (hg:gT x=true):(bytesOf (sT x)).length≤540:=by
 rw[bytesOf_length];exact line_le h hg
theorem implAtt_ev (id:ByteArray) (l:List S30) (tag:List Int) (x:S30) (hi:okS id) (h:∀ y ∈ l,okT y) (hx:okT x) (ht:isBytes tag) (hl:l.length≤1048576):Ev (fun k=>vk.f k id l tag x.f0 x.f1 x.f2 x.f3.f0 x.f3.f1 x.f3.f2 x.f3.f3) (attS id l tag x):=by
 simp only[vk.f];refine Ev.ifP (by omega) ?_;refine Ev.bind (implCap_ev id l tag hi h) ?_;unfold attS attOk
 cases hg:goodCap id l tag
 case false=>simp only[Bool.false_eq_true,if_false,Bool.false_and];exact Ev.now _
 simp only[if_true,Bool.true_and];have h2:=implCap_ev id (l ++ [x]) tag hi (fun y hy=>by rcases List.mem_append.1 hy with hy|hy;exact h y hy;rw[List.mem_singleton.1 hy];exact hx);rw[good_more id l tag x hg] at h2;refine Ev.bind h2 ?_
 cases hb:(gT x && decide (l.length + 1≤20))
 case false=>simp only[Bool.false_eq_true,if_false];exact Ev.now _
 simp only[if_true,attTail];rw[Bool.and_eq_true] at hb;have hs:=sT_small hx hb.1;have hs2:(sT x).size≤540:=line_le hx hb.1;obtain⟨q1,q2,q3,q4⟩:=goodCap_parts hg;refine Ev.bind (implTT_ev x hx) ?_;refine Ev.ifP (by omega) ?_;refine Ev.bind (macI_ev tag (bytesOf (sT x)) ht (bytesOf_isBytes _) (by omega) (by omega)) ?_;exact Ev.now _
theorem specAtt_j0 (b:Bool) (id:ByteArray) (l:List S30) (tag:List Int) (x:S30) (h:∀ y ∈ l,okT y) (hx:okT x) (ht:isBytes tag) (hb:b=false→goodCap id l tag=true∧gT x=true):Ev (fun k=>qkj.j0 k b id l tag x.f0 x.f1 x.f2 x.f3.f0 x.f3.f1 x.f3.f2 x.f3.f3) (if b=true then(⟨#[]⟩,[],[]) else(id,l ++ [x],macL tag (bytesOf (sT x)))):=by
 refine Ev.upW ?_;simp only[qkj.j0]
 cases b
 case true=>simp only[if_true];exact Ev.now _
 obtain⟨hg,hgx⟩:=hb rfl;have hs:=sT_small hx hgx;have hs2:(sT x).size≤540:=line_le hx hgx;obtain⟨q1,q2,q3,q4⟩:=goodCap_parts hg;simp only[Bool.false_eq_true,if_false,Option.bind_some,List.nil_append,List.length_nil,List.length_singleton];refine Ev.ifP (by omega) ?_;refine Ev.ifP (by omega) ?_;refine Ev.bind (specTT_ev x hx) ?_;simp only[bytesS_eq (sT x) (by omega),Option.bind_some];refine Ev.bind (macS_ev tag (bytesOf (sT x)) ht (bytesOf_isBytes _) (by omega) (by omega)) ?_;exact Ev.now _
theorem specAtt_ev (id:ByteArray) (l:List S30) (tag:List Int) (x:S30) (hi:okS id) (h:∀ y ∈ l,okT y) (hx:okT x) (ht:isBytes tag) (hl:l.length≤1048576):Ev (fun k=>qkj.f k id l tag x.f0 x.f1 x.f2 x.f3.f0 x.f3.f1 x.f3.f2 x.f3.f3) (attS id l tag x):=by
 simp only[qkj.f];refine Ev.bind (specGood_ev id l tag hi h hl) ?_;unfold attS attOk
 cases hg:goodCap id l tag
 case false =>
  simp only[Bool.false_eq_true,if_false,Bool.false_and];exact specAtt_j0 true id l tag x h hx ht (fun e=>by cases e)
 simp only[if_true,Bool.true_and];refine Ev.bind (specT_ev x hx) ?_
 cases hgx:gT x
 case false =>
  simp only[Bool.false_eq_true,if_false,Bool.false_and];exact specAtt_j0 true id l tag x h hx ht (fun e=>by cases e)
 simp only[if_true,Bool.true_and,decide_eq_true_eq];have hj:=specAtt_j0 ((l.length:Int) == 20) id l tag x h hx ht (fun _=>⟨hg,hgx⟩)
 have e:(if ((l.length:Int) == 20)=true then((⟨#[]⟩ : ByteArray),([]:List S30),([]:List Int)) else(id,l ++ [x],macL tag (bytesOf (sT x))))=(if l.length + 1≤20 then(id,l ++ [x],macL tag (bytesOf (sT x))) else(⟨#[]⟩,[],[])):=by
  obtain⟨q1,q2,q3,q4⟩:=goodCap_parts hg
  by_cases h20:l.length + 1≤20
  ·rw[if_pos h20,if_neg (by rw[beq_iff_eq];omega)]
  ·rw[if_neg h20,if_pos (by rw[beq_iff_eq];omega)]
 rw[e] at hj;exact hj
theorem attS_small (id:ByteArray) (l:List S30) (tag:List Int) (x:S30) (hl:l.length≤1048576):(attS id l tag x).2.1.length≤1048576∧(attS id l tag x).2.2.length≤16:=by
 unfold attS
 by_cases h:attOk id l tag x=true
 ·rw[if_pos h];unfold attOk at h;simp only[Bool.and_eq_true,decide_eq_true_eq] at h;obtain⟨q1,q2,q3,q4⟩:=goodCap_parts h.1;have e:=mac_len tag (bytesOf (sT x));generalize macL tag (bytesOf (sT x))=mm at e ⊢;have e1:(l ++ [x]).length≤1048576:=by rw[List.length_append,List.length_singleton];omega
  exact⟨e1,by rw[e];exact Nat.le_refl _⟩
 ·rw[if_neg h];exact⟨Nat.zero_le _,Nat.zero_le _⟩
def toT (e:S25):S30:=⟨e.f0,e.f1,e.f2,⟨e.f3.f0,e.f3.f1,e.f3.f2,e.f3.f3⟩⟩
theorem rdTL_nat {l:List S25} {i:Nat} (h:i < l.length):kv l (i:Int)=l[i]:=by simp[kv,List.getD_eq_getElem?_getD,List.getElem?_eq_getElem h]
theorem rdTI_nat {l:List S30} {i:Nat} (h:i < l.length):kw l (i:Int)=l[i]:=by simp[kw,List.getD_eq_getElem?_getD,List.getElem?_eq_getElem h]
theorem szAtom_eq (k m:Int) (t ty:ByteArray) (left:Int) (ht:okS t) (hty:okS ty) (h0 : 0≤left) (h1:left≤1048576):∃ r:Int,qzx.f k m t ty left=some r∧r≤1048576:=by
 unfold okS at ht hty;unfold qzx.f;rw[w64 (by omega) (by omega)]
 by_cases h:left - (t.size:Int) < 0
 ·exact⟨_,if_pos h,by omega⟩
 rw[if_neg h,w64 (by omega) (by omega)]
 by_cases h2:left - (t.size:Int) - (ty.size:Int) < 0
 ·exact⟨_,if_pos h2,by omega⟩
 ·exact⟨_,if_neg h2,by omega⟩
theorem szTerm_eq (l:ByteArray) (n:Int) (p:ByteArray) (k m:Int) (t ty:ByteArray) (left:Int) (hl:okS l) (hp:okS p) (ht:okS t) (hty:okS ty) (h0 : 0≤left) (h1:left≤1048576):∃ r:Int,qjj.f l n p k m t ty left=some r∧r≤1048576∧(¬ r < 0→True):=by
 unfold okS at hl hp;unfold qjj.f;rw[w64 (by omega) (by omega)]
 by_cases h:left - (l.size:Int) < 0
 ·exact⟨_,if_pos h,by omega,fun _=>trivial⟩
 rw[if_neg h,w64 (by omega) (by omega)]
 by_cases h2:left - (l.size:Int) - (p.size:Int) < 0
 ·exact⟨_,if_pos h2,by omega,fun _=>trivial⟩
 rw[if_neg h2];obtain⟨r,hr,hr1⟩:=szAtom_eq k m t ty (left - (l.size:Int) - (p.size:Int)) ht hty (by omega) (by omega);rw[hr,Option.bind_some]
 by_cases h3:r < 0
 ·exact⟨_,if_pos h3,by omega,fun _=>trivial⟩
 ·exact⟨_,if_neg h3,by omega,fun _=>trivial⟩
def okLT (e:S25):Prop:=okS e.f0∧okS e.f2∧okS e.f3.f2∧okS e.f3.f3
theorem szCavTermS_ev (l:List S25) (hok:∀ e ∈ l,okLT e) (hmax:l.length≤9223372036854775807) (left:Int) (h0 : 0≤left) (h1:left≤1048576):∃ r:Int,Ev (fun k=>qjk.f k l left) r∧r≤1048576∧(¬ r < 0→l.length≤1048576∧∀ e ∈ l,True) :=
 rows_szf l okLT (fun _=>True) (fun k x=>qjk.f k l x) (fun k x i=>qjk.l0 k l x i) (fun _ e x=>qjj.f e.f0 e.f1 e.f2 e.f3.f0 e.f3.f1 e.f3.f2 e.f3.f3 x) left h0 h1 hmax (fun _=>rfl)
  (fun k x=>by simp only[qjk.l0,if_neg (Int.lt_irrefl _)])
  (fun hl k i h x=>by simp only[qjk.l0,if_pos (show(i:Int) < (l.length:Int) by omega),if_pos (Int.natCast_nonneg i),rdTL_nat h,wrap_succ h (by omega)])
  hok (fun e he x hx0 hx1=>by obtain⟨r,e1,e2,e3⟩:=szTerm_eq e.f0 e.f1 e.f2 e.f3.f0 e.f3.f1 e.f3.f2 e.f3.f3 x he.1 he.2.1 he.2.2.1 he.2.2.2 hx0 hx1;exact⟨r,⟨0,fun _ _=>e1⟩,e2,e3⟩)
theorem toCavTermS_ev (l:List S25) (hlen:l.length≤1048576):Ev (fun k=>qkz.f k l) (l.map toT):=by
 simp only[qkz.f,if_pos (Int.natCast_nonneg l.length),Int.toNat_natCast,if_pos (show l.length≤3198579280802 by omega)]
 have:=rows_to l z30 (fun k x i=>qkz.l0 k l x i) (fun _ e=>qkq.f e.f0 e.f1 e.f2 e.f3.f0 e.f3.f1 e.f3.f2 e.f3.f3) (fun t=>(⟨t.1,t.2.1,t.2.2.1,⟨t.2.2.2.1,t.2.2.2.2.1,t.2.2.2.2.2.1,t.2.2.2.2.2.2⟩⟩ : S30)) toT hlen
  (fun k x=>by simp only[qkz.l0,if_neg (Int.lt_irrefl _)])
  (fun k i h x hx=>by simp only[qkz.l0,if_pos (show(i:Int) < (l.length:Int) by omega),if_pos (Int.natCast_nonneg i),rdTL_nat h,wrap_succ h (by omega),if_pos (show(i:Int) < (x.length:Int) by omega),Int.toNat_natCast])
  (fun e _=>⟨_,⟨0,fun _ _=>rfl⟩,rfl⟩) l.length 0 (by omega)
 rw[List.take_zero,jq2,List.nil_append] at this;exact this
theorem eqCavTerm_refl (a:ByteArray) (b:Int) (c:ByteArray) (d e:Int) (f g:ByteArray):qqv.f a b c d e f g a b c d e f g=some true:=by unfold qqv.f qqz.f;simp only[if_true,Option.bind_some]
theorem eqCavTermS_refl (l:List S30) (hlen:l.length≤1048576):Ev (fun k=>qqw.f k l l) true:=by
 simp only[qqw.f,if_true]
 exact rows_eq l (fun k i=>qqw.l0 k l l i) (fun _ e=>qqv.f e.f0 e.f1 e.f2 e.f3.f0 e.f3.f1 e.f3.f2 e.f3.f3 e.f0 e.f1 e.f2 e.f3.f0 e.f3.f1 e.f3.f2 e.f3.f3) hlen
  (fun k=>by simp only[qqw.l0,if_neg (Int.lt_irrefl _)])
  (fun k i h=>by simp only[qqw.l0,if_pos (show(i:Int) < (l.length:Int) by omega),if_pos (Int.natCast_nonneg i),rdTI_nat h,wrap_succ h (by omega)])
  (fun e _=>⟨0,fun _ _=>eqCavTerm_refl _ _ _ _ _ _ _⟩) l.length 0 (by omega)
theorem szCap_ev (id:ByteArray) (l:List S25) (tag:List Int) (hi:okS id) {ok:S25→Prop} (hok0:∀ e,ok e→okLT e) (hl:okL ok l) (ht:okL okB tag):∃ r:Int,Ev (fun k=>qjz.f k id l tag 1048576) r∧(¬ r < 0→l.length≤1048576∧tag.length≤1048576):=by
 have hl0:=hl.1;have ht0:=ht.1;have hi0:id.size≤9223372036854775807:=hi;have hok:∀ e ∈ l,okLT e:=fun e he=>hok0 e (hl.2 e he)
 simp only[qjz.f,w64 (show -9223372036854775808≤(1048576:Int) - (id.size:Int) by omega) (show(1048576:Int) - (id.size:Int)≤9223372036854775807 by omega)]
 by_cases h:(1048576:Int) - (id.size:Int) < 0
 ·simp only[if_pos h];exact⟨-1,Ev.now _,fun h=>absurd (show(-1:Int) < 0 by decide) h⟩
 simp only[if_neg h];obtain⟨r,er,hr1,hr2⟩:=szCavTermS_ev l hok hl0 ((1048576:Int) - (id.size:Int)) (by omega) (by omega)
 by_cases h2:r < 0
 ·refine⟨-1,Ev.bind er ?_,fun h=>absurd (show(-1:Int) < 0 by decide) h⟩;simp only[if_pos h2];exact Ev.now _
 have hw:wrap64 (r - (tag.length:Int))=r - (tag.length:Int):=w64 (by omega) (by omega)
 by_cases h3:r - (tag.length:Int) < 0
 ·refine⟨-1,Ev.bind er ?_,fun h=>absurd (show(-1:Int) < 0 by decide) h⟩;simp only[if_neg h2,qjq.f,hw,if_pos h3,Option.bind_some,if_pos (show(-1:Int) < 0 by decide)];exact Ev.now _
 ·refine⟨r - (tag.length:Int),Ev.bind er ?_,fun _=>⟨(hr2 h2).1,by omega⟩⟩;simp only[if_neg h2,qjq.f,hw,if_neg h3,Option.bind_some];exact Ev.now _
theorem toCap_ev (id:ByteArray) (l:List S25) (tag:List Int) (hl:l.length≤1048576) (ht:tag.length≤1048576):Ev (fun k=>qjx.f k id l tag) (id,l.map toT,tag):=by
 simp only[qjx.f];refine Ev.bind (toCavTermS_ev l hl) ?_;refine Ev.bind (toByteS_ev tag (by omega)) ?_;exact Ev.now _
theorem eqCap_refl (id:ByteArray) (l:List S30) (tag:List Int) (hl:l.length≤1048576) (ht:tag.length≤1048576):Ev (fun k=>qqk.f k id l tag id l tag) true:=by
 simp only[qqk.f,if_true];refine Ev.bind (eqCavTermS_refl l hl) ?_;simp only[if_true];refine Ev.bind (eqByteS_refl tag (by omega)) ?_;simp only[if_true];exact Ev.now _
theorem markText_l0 (n:Nat):∀ (x:Int) (s:ByteArray),0≤x→x < 10 ^ n→n≤18→s.size + n≤1000→∃ t,Ev (fun k=>qzw.l0 k x s) t:=by
 induction n with
 | zero =>
  intro x s h0 h1 h2 hs
  refine⟨_,Ev.upW (r:=(⟨#[109]⟩ : ByteArray) ++ s) ?_⟩;simp only[qzw.l0,if_neg (show ¬ x > 0 by omega),if_pos (show 1 + s.size≤9223372036854775807 by omega)];exact Ev.now _
 | succ n ih =>
  intro x s h0 h1 h2 hs
  by_cases hx:x > 0
  ·have hz:∀ y:Int,(strOfNums [y]).size=1:=fun y=>rfl
   have hb:(10:Int) ^ (n + 1)≤10 ^ 18:=by
    have:(10:Nat) ^ (n + 1)≤10 ^ 18:=Nat.pow_le_pow_right (by decide) h2
    exact_mod_cast this
   have hp:(10:Int) ^ (n + 1)=10 ^ n * 10:=Int.pow_succ _ _;have hd:Int.tdiv x 10=x / 10:=Int.tdiv_eq_ediv_of_nonneg h0;have hlt:x / 10 < 10 ^ n:=by omega
   by_cases hbig:x≤9223372036854775807
   case neg=>omega
   have hw:wrap64 (Int.tdiv x 10)=x / 10:=by rw[hd];exact w64 (by omega) (by omega)
   obtain⟨t,ht⟩:=ih (x / 10) (strOfNums [(wrap64 (48 + (Int.tmod x 10))) % 256] ++ s) (by omega) hlt (by omega) (by rw[ByteArray.size_append,hz];omega);refine⟨t,Ev.upW ?_⟩;simp only[qzw.l0,if_pos hx,Option.bind_some,hz,if_pos (show 1 + s.size≤9223372036854775807 by omega),hw];exact ht
  ·refine⟨_,Ev.upW (r:=(⟨#[109]⟩ : ByteArray) ++ s) ?_⟩;simp only[qzw.l0,if_neg hx,if_pos (show 1 + s.size≤9223372036854775807 by omega)];exact Ev.now _
theorem markText_ex (x:Int):∃ t,x < 1000000000000000000→Ev (fun k=>qzw.f k x) t:=by
 by_cases h:x≤0
 ·refine⟨⟨#[109,48]⟩,fun _=>?_⟩;simp only[qzw.f,if_pos h];exact Ev.now _
 ·by_cases h1:x < 1000000000000000000
  ·obtain⟨t,ht⟩:=markText_l0 18 x (⟨#[]⟩ : ByteArray) (by omega) (by omega) (by omega) (by decide);refine⟨t,fun _=>?_⟩;simp only[qzw.f,if_neg h];exact ht
  ·exact⟨⟨#[]⟩,fun h2=>absurd h2 h1⟩
noncomputable def mt (x:Int):ByteArray:=Classical.choose (markText_ex x)
theorem mt_ev (x:Int) (h:x < 1000000000000000000):Ev (fun k=>qzw.f k x) (mt x):=Classical.choose_spec (markText_ex x) h
theorem Ev.ifW {α:Type} {c:Prop} [Decidable c] {f g:Nat→Option α} {r : α} (h:c) (he:Ev f r):Ev (fun n=>if c then f n else g n) r:=by
 simp only[if_pos h];exact he
noncomputable def mkT (a:Int):CvT:=⟨mt a,a + 1,mt (a + 2),⟨a + 3,a + 4,mt (a + 5),mt (a + 6)⟩⟩
noncomputable def mksT:Nat→Int→List CvT
 | 0,_=>[]
 | n + 1,a=>mkT a :: mksT n (a + 7)
theorem mksT_len:∀ (n:Nat) (a:Int),(mksT n a).length=n
 | 0,_=>rfl
 | n + 1,a=>by rw[mksT,List.length_cons,mksT_len n]
theorem marksL_ev:∀ (n:Nat) (a:Int),a + 7 * (n:Int)≤100000000000000000→Ev (fun k=>marksL k n a) (mksT n a)
 | 0,_,_=>Ev.now _
 | n + 1,a,h=>by
  simp only[marksL,markOne,Option.bind_assoc,Option.bind_some];refine Ev.bind (mt_ev a (by omega)) ?_;refine Ev.bind (mt_ev (a + 2) (by omega)) ?_;refine Ev.bind (mt_ev (a + 5) (by omega)) ?_;refine Ev.bind (mt_ev (a + 6) (by omega)) ?_;refine Ev.bind (marksL_ev n (a + 7) (by omega)) ?_;exact Ev.now _
theorem allHeld_of {k:Nat} : ∀ {n:Nat} {a:Int} {xs:List CvT},marksL k n a=some xs→allHeld k xs a=true
 | 0,a,xs,h=>by
  obtain rfl:=Option.some.inj h
  rfl
 | n + 1,a,xs,h=>by
  rw[marksL] at h;obtain⟨x,hx,h⟩:=jq8.mp h;obtain⟨ys,hy,h⟩:=jq8.mp h;obtain rfl:=Option.some.inj h;rw[allHeld,Bool.and_eq_true,decide_eq_true_eq];exact⟨markOne_open hx,allHeld_of hy⟩
theorem markTerms_ev (l:List CvT) (h:l.length≤10000000):Ev (fun k=>qzv.f k l 1) (1 + 7 * (l.length:Int),mksT l.length 1):=by
 simp only[qzv.f];refine Ev.ifW ⟨by omega,by omega,by omega⟩ ?_;exact Ev.bind (marksL_ev l.length 1 (by omega)) (Ev.now _)
theorem heldTerms_ev (n:Nat) (h:n≤10000000):Ev (fun k=>qzz.f k (mksT n 1) 1) (1 + 7 * (n:Int)):=by
 obtain⟨K,hK⟩:=marksL_ev n 1 (by omega);refine⟨K,fun k hk=>?_⟩
 show qzz.f k (mksT n 1) 1=_
 unfold qzz.f;rw[mksT_len,if_pos ⟨allHeld_of (hK k hk),by omega,by omega,by omega⟩]
theorem markCap_ev (id:ByteArray) (l:List CvT) (tag:List Int) (hl:l.length≤10000000) (ht:tag.length≤10000000):Ev (fun k=>qzk.f k id l tag 1) (1 + 7 * (l.length:Int) + (tag.length:Int),mksT l.length 1,markL tag.length (1 + 7 * (l.length:Int))):=by
 simp only[qzk.f];refine Ev.bind (markTerms_ev l hl) ?_;refine Ev.bind (markByteS_ev tag (1 + 7 * (l.length:Int)) (by omega) (by omega) (by omega)) ?_;exact Ev.now _
theorem heldCap_ev (id:ByteArray) (n m:Nat) (hl:n≤10000000) (ht:m≤10000000):Ev (fun k=>qzq.f k id (mksT n 1) (markL m (1 + 7 * (n:Int))) 1) (1 + 7 * (n:Int) + (m:Int)):=by
 simp only[qzq.f];refine Ev.bind (heldTerms_ev n hl) ?_;simp only[if_neg (show ¬ (1 + 7 * (n:Int) < 0) by omega)];refine Ev.bind (heldByteS_ev m (1 + 7 * (n:Int)) (by omega) (by omega) (by omega)) ?_;simp only[if_neg (show ¬ (1 + 7 * (n:Int) + (m:Int) < 0) by omega)];exact Ev.now _
end Go.Proofs.YtnbbbjfjkhglhaaGreatDoor.Pr
namespace Go.Proofs.YtnbbbjfjkhglhaaGreatDoor.Pure
open Go.RowKit Go.Proofs.YtnbbbjfjkhglhaaGreatDoor.Read Go.Proofs.YtnbbbjfjkhglhaaGreatDoorW.PrintWords Go.Proofs.YtnbbbjfjkhglhaaGreatDoor.Pr
theorem szTerm_some (l:ByteArray) (n:Int) (p:ByteArray) (k m:Int) (t ty:ByteArray) (q:Int):∃ z,qjj.f l n p k m t ty q=some z:=by
 simp only[qjj.f,qzx.f]
 split
 ·exact⟨_,rfl⟩
 ·split
  ·exact⟨_,rfl⟩
  ·split
   ·exact⟨_,rfl⟩
   ·split
    ·exact⟨_,rfl⟩
    ·simp only[Option.bind_some]
     split <;> exact⟨_,rfl⟩
theorem FnExactAttenuate:qqq.Pure:=by
 intro id l tag b0 b1 b2 b3 b4 b5 b6 hi hl ht g0 g1 g2 g3 g4 g5 g6
 obtain⟨z,hz,hz2⟩:=szCap_ev id l tag hi (fun e he=>⟨he.1,he.2.2.1,he.2.2.2.2.2.1,he.2.2.2.2.2.2⟩) hl ht
 have h:Ev (fun f=>qqq.f f id l tag b0 b1 b2 b3 b4 b5 b6) true:=by
  simp only[qqq.f];refine Ev.bind hz ?_
  by_cases h0:z < 0
  ·simp only[if_pos h0];exact Ev.now _
  obtain⟨n1,n2⟩:=hz2 h0;obtain⟨y,hy⟩:=szTerm_some b0 b1 b2 b3 b4 b5 b6 z;simp only[if_neg h0,hy,Option.bind_some]
  by_cases h1:y < 0
  ·simp only[if_pos h1];exact Ev.now _
  simp only[if_neg h1]
  have hT:∀ x ∈ l.map toT,okT x:=by
   intro x hx
   obtain⟨e,he,rfl⟩:=List.mem_map.1 hx;have:=hl.2 e he;exact⟨this.1,this.2.2.1,this.2.2.2.2.1,this.2.2.2.2.2.1,this.2.2.2.2.2.2⟩
  have hX:okT (⟨b0,b1,b2,⟨b3,b4,b5,b6⟩⟩ : S30):=⟨g0,g2,g4,g5,g6⟩;have htb:isBytes tag:=ht.2;have hlm:(l.map toT).length≤1048576:=by rw[List.length_map];exact n1
  have hc:=toCap_ev id l tag n1 n2;have hS:=specAtt_ev id (l.map toT) tag ⟨b0,b1,b2,⟨b3,b4,b5,b6⟩⟩ hi hT hX htb hlm;have hI:=implAtt_ev id (l.map toT) tag ⟨b0,b1,b2,⟨b3,b4,b5,b6⟩⟩ hi hT hX htb hlm;have hm:=attS_small id (l.map toT) tag ⟨b0,b1,b2,⟨b3,b4,b5,b6⟩⟩ hlm;generalize attS id (l.map toT) tag ⟨b0,b1,b2,⟨b3,b4,b5,b6⟩⟩ = w at hS hI hm;obtain⟨w1,w2,w3⟩:=w;have he:=eqCap_refl w1 w2 w3 hm.1 (Nat.le_trans hm.2 (by omega));have hm1:w2.length≤1048576:=hm.1;have hm2:w3.length≤16:=hm.2;simp only[qkq.f,qjv.f,Option.bind_some];refine Ev.bind hc (Ev.bind hS (Ev.bind hc (Ev.bind hI (Ev.bind he ?_))));simp only[if_true];refine Ev.bind hc (Ev.bind (eqCap_refl id (l.map toT) tag hlm n2) ?_);simp only[if_true];refine Ev.bind (markCap_ev id (l.map toT) tag (by omega) (by omega)) ?_;simp only[if_neg (show ¬ (1 + 7 * ((l.map toT).length:Int) + (tag.length:Int) < 0) by omega)];refine Ev.bind he ?_;refine Ev.upW ?_;simp only[qqq.j0,Bool.not_true,Bool.false_eq_true,if_false];refine Ev.bind (markCap_ev w1 w2 w3 (by omega) (by omega)) ?_;have hh:=heldCap_ev w1 w2.length w3.length (by omega) (by omega);refine Ev.bind hh ?_;simp only[if_neg (show ¬ (1 + 7 * (w2.length:Int) + (w3.length:Int) < 0) by omega),if_true];simp only[qkq.f,qjv.f,Option.bind_some];refine Ev.bind hc (Ev.bind hI (Ev.bind he ?_));simp only[if_true];refine Ev.bind hh ?_;simp only[if_neg (show ¬ (1 + 7 * (w2.length:Int) + (w3.length:Int) < 0) by omega),if_true];exact Ev.now _
 exact h.elim fun K hK=>⟨K,hK K (Nat.le_refl _)⟩
end Go.Proofs.YtnbbbjfjkhglhaaGreatDoor.Pure
namespace Go.Proofs.YtnbbbjfjkhglhaaGreatDoor.fnExactAttenuate
open Go.ChangeShapes Go.WideShapes Go.ChangeAt Go.RowKit Go.Proofs.YtnbbbjfjkhglhaaGreatDoor.Read Go.Proofs.YtnbbbjfjkhglhaaGreatDoorW.PrintWords Go.Proofs.YtnbbbjfjkhglhaaGreatDoor.Pr
open Go.ChangeMaps (open_string shut_string)
set_option linter.unusedVariables false
theorem own:ownKnob Tryz.prog.godebug=none:=by kernel_rfl
theorem laidOut:laidOutB Tryz.prog=true:=by kernel_rfl
def tabCells (d:DataW Unit):Array Value:=match d with|.agg l=>(l.map fun x=>match x with|.lit (.int k z)=>Value.int k z|_=>undef).toArray|_=>#[]
noncomputable def laidWorld (os:Os):World:={ World.holding Tryz.prog os ⟨#[],#[],[]⟩ with heap:=(fun h=>(h.modify 0 fun|.cells _ t frozen=>.cells #[.slice (some ⟨h.size,0,none⟩) 4 4] t frozen|o=>o).push (.cells #[.string ⟨#[61,61]⟩,.string ⟨#[60]⟩,.string ⟨#[60,61]⟩,.string ⟨#[105,110]⟩] 9 (0,0))) <| (fun h=>h.modify 2 fun|.cells _ t frozen=>.cells (tabCells Rows.laid_math_bits_deBruijn32tab) t frozen|o=>o) <| (fun h=>h.modify 3 fun|.cells _ t frozen=>.cells (tabCells Rows.laid_math_bits_deBruijn64tab) t frozen|o=>o) <| (fun h=>h.modify 1 fun|.cells _ t frozen=>.cells (tabCells Rows.laid_internal_strconv_uint64pow10) t frozen|o=>o) <| (World.holding Tryz.prog os ⟨#[],#[],[]⟩).heap }
theorem laidWorld_met (os:Os) (args:Array Value):laidMet Tryz.prog Rows.fnExactAttenuateRow.laid ((laidWorld os).forCall (fun _ _=>0) ⟨#[],args,[]⟩).memory :=
 laidMet_of_run' 8 (by kernel_rfl) (by kernel_rfl)
theorem tab_of_laid {W:World} (h:laidMet Tryz.prog Rows.fnExactAttenuateRow.laid W):TabW W:=by
 have h2 : laidMet Tryz.prog (("internal/strconv.uint64pow10", Lib.tabData .u64 Lib.pow10Tab) :: ("loop.example/g00036/impl.yopWords", Rows.laid_loop_example_g00036_impl_yopWords) :: []) W := laidMet.tail (laidMet.tail ((show laidMet Tryz.prog (("math/bits.deBruijn32tab", Rows.laid_math_bits_deBruijn32tab) :: ("math/bits.deBruijn64tab", Rows.laid_math_bits_deBruijn64tab) :: ("internal/strconv.uint64pow10", Lib.tabData .u64 Lib.pow10Tab) :: ("loop.example/g00036/impl.yopWords", Rows.laid_loop_example_g00036_impl_yopWords) :: []) W from h)))
 refine⟨Lib.tabIs_of_head (g:=1) (t:=129) (e:=81) (n:=20) (by kernel_rfl) (by kernel_rfl) Tryz.underlying129 Tryz.underlying81 (by kernel_rfl) (by kernel_rfl) h2,?_⟩;obtain ⟨ps, hv, _, _⟩ := (laidMet.tail (h2) : laidMet Tryz.prog (("loop.example/g00036/impl.yopWords", Rows.laid_loop_example_g00036_impl_yopWords) :: []) W)
 obtain⟨g,t,cs,fuel,p,q,hg,ht,hvar,htrod,_,_⟩:=hv;obtain rfl:g=0:=Option.some.inj (hg.symm.trans (by kernel_rfl));obtain rfl:t=50:=Option.some.inj (ht.symm.trans (by kernel_rfl));obtain⟨a,cap,hcs,hle,hel⟩:=open_row Tryz.underlying50 (by kernel_rfl) (show DataW.trod (fun _=>()) Tryz.prog W 0 (fun _=>true) false fuel 50 cs.toList=some (.slice [.lit (.string [61,61]),.lit (.string [60]),.lit (.string [60,61]),.lit (.string [105,110])] [],p) from htrod);have hcs2:cs = #[.slice (some a) 4 cap]:=by cases cs;simp_all
 subst hcs2
 have hS:∀ (i:Nat) (l:List UInt8),([.lit (.string [61,61]),.lit (.string [60]),.lit (.string [60,61]),.lit (.string [105,110])]:List (DataW Unit))[i]? = some (.lit (.string l))→W.cell? (a.add i)=some (.string ⟨l.toArray⟩):=fun i l hi=>by
  obtain⟨v,m,q2,hc,hd⟩:=hel i _ hi;obtain⟨s,es,ex,_⟩:=DataW.trod_string Tryz.underlying9 hd;obtain rfl:v=.string s:=by simpa using es
  have e2:l=s.data.toList:=(show l=s.data.toList∧q2=[] by simpa using ex).1;rw[hc,e2]
 refine⟨a,cap,by simpa using World.var?_cell hg hvar 0,fun i s hi=>?_⟩
 match i,hi with
 | 0,hi=>obtain rfl:=Option.some.inj hi;exact hS 0 _ rfl
 | 1,hi=>obtain rfl:=Option.some.inj hi;exact hS 1 _ rfl
 | 2,hi=>obtain rfl:=Option.some.inj hi;exact hS 2 _ rfl
 | 3,hi=>obtain rfl:=Option.some.inj hi;exact hS 3 _ rfl
 | i + 4,hi=>cases hi
theorem lifted (os:Os) (started:os.Started) (H:Type) (enc:TypeId × Value→H) :
  ReturnsInHanded {} Tryz.checked os 5 .any (fun w args=>(Rows.fnExactAttenuateSpec.pre enc Tryz.prog Tryz.f5 Rows.fnExactAttenuateRow.domain false w args∧laidMet Tryz.prog Rows.fnExactAttenuateRow.laid w)∧sizedMet enc Tryz.prog Tryz.f5 (OpenSpec.ofChange Rows.fnExactAttenuateSpec) false w args) (Rows.fnExactAttenuateSpec.post enc Tryz.prog Tryz.f5 false true false false):=by
 refine returnsInHanded_of_change_and (C:=Tryz.checked) (X:=fun w _=>laidMet Tryz.prog Rows.fnExactAttenuateRow.laid w) (fun _ _ _ hh h=>h.of_heap hh) own started (by kernel_rfl) Tryz.func5
  (ChangeSpec.witness_shaped (enc:=enc) (C:=Tryz.checked) (os:=os) (X:=fun w _=>laidMet Tryz.prog Rows.fnExactAttenuateRow.laid w) false (laidWorld os) #[.agg #[.string ByteArray.empty,.slice none 0 0,.slice none 0 0],.agg #[.string ByteArray.empty,.int .i64 0,.string ByteArray.empty,.int .i64 0,.int .i64 0,.string ByteArray.empty,.string ByteArray.empty]] 8 rfl (World.shaped_of_RefB (by kernel_rfl) (by kernel_rfl)) (by kernel_rfl) (by kernel_rfl) (by kernel_rfl) (laidWorld_met os _)) ?_
 intro W base args ds gs before hval0 hW hcnd _ hL _
 have htab:=tab_of_laid hL;clear hL;have hval:∀ (j:Nat) t v,Tryz.f5.params[j]? = some t→args[j]? = some v→Value.okWide Tryz.prog W .any base t v:=hval0;have hW':=hW;obtain⟨p,q,hA0,hV,rfl,hfz,hnd⟩:=hW;have hA:DataW.TrodAll enc Tryz.prog W 0 (fun _=>true) true Tryz.f5.params.toList args.toList ds p:=hA0;rw[Tryz.params5] at hA hval;obtain⟨v0,vs0,d0,ds0,p0,q0,hargs,rfl,rfl,h0,r0⟩:=trodAll_cons hA;obtain⟨v1,vs1,d1,ds1,p1,q1,rfl,rfl,rfl,h1,r1⟩:=trodAll_cons r0;obtain⟨rfl,rfl,rfl⟩:=trodAll_nil r1;obtain rfl:args = #[v0,v1]:=by cases args;simp_all
 obtain⟨_,_,_,_,g1_,_,egs,_⟩:=trodVars_one hV;subst egs;have lt0:∀ x ∈ p0,x.block < W.heap.size:=by obtain⟨m,hm⟩:=h0;exact DataW.trod_lt m _ _ _ hm
 have bk0:=fun {W':World} (bel:Below W.heap.size W W')=>Below.trod laidOut (by kernel_rfl) (of_decide_eq_true (by kernel_rfl)) h0 bel lt0
 obtain⟨⟨a0_0,⟨l0_1,l0_2⟩⟩,cs0,hv0,hK0,⟨o0_0,⟨o0_1,o0_2⟩⟩⟩:=arg_struct Tryz.underlying36 (tells_struct Tryz.underlying36 (by kernel_rfl) (fs_cons rfl (tellsS Tryz.underlying9 (by kernel_rfl)) (fs_cons rfl (tellsL Tryz.underlying33 (by kernel_rfl) tells25) (fs_one rfl (tellsL Tryz.underlying34 (by kernel_rfl) (tellsB Tryz.underlying5 (by kernel_rfl))))))) (hval 0 36 v0 rfl rfl) h0;obtain⟨_,_,rfl,rfl,⟨_,_,rfl,⟨A0_1,c0_1,rfl,hl0_1,hC0_1⟩,⟨A0_2,c0_2,rfl,hl0_2,hC0_2⟩⟩⟩:=hK0;simp only[List.cons_append,List.nil_append] at hv0;subst hv0;have lt1:∀ x ∈ p1,x.block < W.heap.size:=by obtain⟨m,hm⟩:=h1;exact DataW.trod_lt m _ _ _ hm
 have bk1:=fun {W':World} (bel:Below W.heap.size W W')=>Below.trod laidOut (by kernel_rfl) (of_decide_eq_true (by kernel_rfl)) h1 bel lt1
 obtain⟨⟨a1_0,⟨a1_1,⟨a1_2,⟨a1_3,⟨a1_4,⟨a1_5,a1_6⟩⟩⟩⟩⟩⟩,cs1,hv1,hK1,⟨o1_0,⟨o1_1,⟨o1_2,⟨o1_3,⟨o1_4,⟨o1_5,o1_6⟩⟩⟩⟩⟩⟩⟩:=arg_struct Tryz.underlying25 (tells_struct Tryz.underlying25 (by kernel_rfl) (fs_cons rfl (tellsS Tryz.underlying9 (by kernel_rfl)) (fs_cons rfl (tellsI Tryz.underlying3 (by kernel_rfl)) (fs_cons rfl (tellsS Tryz.underlying9 (by kernel_rfl)) (fs_one rfl (tells_struct Tryz.underlying23 (by kernel_rfl) (fs_cons rfl (tellsI Tryz.underlying3 (by kernel_rfl)) (fs_cons rfl (tellsI Tryz.underlying3 (by kernel_rfl)) (fs_cons rfl (tellsS Tryz.underlying9 (by kernel_rfl)) (fs_one rfl (tellsS Tryz.underlying9 (by kernel_rfl)))))))))))) (hval 1 25 v1 rfl rfl) h1;obtain⟨_,_,rfl,rfl,⟨_,_,rfl,rfl,⟨_,_,rfl,rfl,⟨_,_,rfl,rfl,⟨_,_,rfl,rfl,⟨_,_,rfl,rfl,rfl⟩⟩⟩⟩⟩⟩:=hK1;simp only[List.cons_append,List.nil_append] at hv1;subst hv1;obtain⟨k,hk⟩:=Pure.FnExactAttenuate a0_0 l0_1 l0_2 a1_0 a1_1 a1_2 a1_3 a1_4 a1_5 a1_6 o0_0 o0_1 o0_2 o1_0 o1_1 o1_2 o1_3 o1_4 o1_5 o1_6;refine(qqq.calls k a0_0 _ _ l0_1 _ _ l0_2 a1_0 a1_1 a1_2 a1_3 a1_4 a1_5 a1_6 true W htab hC0_1 hl0_1 hC0_2 hl0_2 hk).mono fun e W' hpost=>?_
 obtain⟨he,hb⟩:=hpost;have bel:Below W.heap.size W W':=hb;subst he;exact⟨_,rfl,_,_,_,[],_,_,hW',trodAll_mk1 (shut_bool Tryz.underlying4 _),(trodAll_cons_mk (bk0 bel) (trodAll_cons_mk (bk1 bel) trodAll_mk0)),Below.trodVars laidOut bel (by kernel_rfl) hV,bel.frame _,fun h=>by cases h⟩
theorem over:Rows.fnExactAttenuateRow.holds Tryz.pinned (OpenSpec.ofChange Rows.fnExactAttenuateSpec) :=
 OpenClaim.holds_of_wide 5 Tryz.f5 rfl rfl rfl rfl rfl rfl rfl ⟨rfl,rfl,rfl,rfl,rfl⟩ rfl rfl rfl rfl rfl (by kernel_rfl) Tryz.func5 (by kernel_rfl)
  (of_decide_eq_true (by kernel_rfl)) (by unfold Func.isWrapper;first|(rw[if_pos (by decide +kernel)];kernel_rfl)|(rw[if_neg (by decide +kernel)];exact⟨rfl,rfl⟩))
  (fun os started H enc _=>lifted os started H enc)
theorem row_holds:Rows.FnExactAttenuateSaid:=over
theorem proved:Rows.FnExactAttenuateCardSaid :=
 Claim7.holds_tied_plain_at .later [] [.data, .data, .data, .widerDeep] true (true, "e76814c29f84dc0503eca739d862b5251f16267a6e53cac6adbafa9274c78e8d") true over (fun _ h => by cases h) (by kernel_rfl) (fun _ h => by cases h) fnExactAttenuate_row_tie rfl ⟨rfl, rfl⟩ (by kernel_rfl) rfl
  (fun f fn hf hfn=>by
   obtain rfl : f = 5 := Option.some.inj ((show Tryz.prog.funcNamed "loop.example/g00036/laws.FnExactAttenuate" = some 5 by kernel_rfl).symm.trans hf) |>.symm
   obtain rfl:fn=Tryz.f5:=(Option.some.inj (Tryz.func5.symm.trans hfn)).symm
   exact⟨by kernel_rfl,fun j t ht=>by
    rw[Tryz.params5] at ht
    have hm:t ∈ ([36,25]:List TypeId):=by
     have h2:([36,25]:List TypeId)[j]? = some t:=by simpa using ht
     exact List.mem_of_getElem? h2
    simp only[List.mem_cons,List.not_mem_nil,or_false] at hm
    rcases hm with rfl|rfl
    ·exact(show Tryz.prog.wantsStandIn 36=false by kernel_rfl)
    ·exact(show Tryz.prog.wantsStandIn 25=false by kernel_rfl)⟩)
  (by kernel_rfl)
#print axioms proved
end Go.Proofs.YtnbbbjfjkhglhaaGreatDoor.fnExactAttenuate
namespace Go.Proofs.YtnbbbjfjkhglhaaGreatDoor
theorem fnExactAttenuate_holds:Rows.FnExactAttenuateCardSaid:=fnExactAttenuate.proved
end Go.Proofs.YtnbbbjfjkhglhaaGreatDoor
