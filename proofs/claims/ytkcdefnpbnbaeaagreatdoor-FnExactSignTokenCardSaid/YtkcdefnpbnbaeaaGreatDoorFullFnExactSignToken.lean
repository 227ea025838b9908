/- The law FnExactSignToken: whatever the input, the call returns true and the arguments read as before. No conditions. -/
import Derived.Test.YtkcdefnpbnbaeaaGreatDoorFullFnExactSignTokenE
import Derived.Test.YtkcdefnpbnbaeaaGreatDoorRows
import Derived.Test.YtkcdefnpbnbaeaaGreatDoorCards
import Derived.Test.YtkcdefnpbnbaeaaGreatDoorTie
import Derived.WalkKit
import Derived.ProofKit
import Derived.OpenShut
import Derived.ShutString
import Derived.ChangeOld
import Derived.Below
import Derived.SevenTiedAt
import Derived.Stop.LaidErr
import Derived.Lib.LaidTab
import Derived.LaidMore
import Derived.OpenVars
import Derived.ChangeVars
set_option maxHeartbeats 8000000
set_option maxRecDepth 100000
open List renaming map_toArray → jq0, map_cons → jq1, map_nil → jq2, length_drop → jq3, length_take → jq4, setIfInBounds_toArray → jq5, set_cons_zero → jq6, set_cons_succ → jq7
open Option renaming bind_eq_some_iff → jq8
open Bool renaming eq_false_iff → jq9, true → Z, false → Y
namespace Go.Proofs.YtkcdefnpbnbaeaaGreatDoor.Pr
open Go.RowKit Go.Proofs.YtkcdefnpbnbaeaaGreatDoor.Read Go.Proofs.YtkcdefnpbnbaeaaGreatDoorW.PrintWords
set_option linter.unusedVariables false
set_option linter.unusedSimpArgs false
theorem joinL_snoc (sep:List UInt8) (l:List ByteArray) (y:ByteArray) (h:l≠[]):joinL sep (l ++ [y])=joinL sep l ++ (sep ++ y.data.toList):=by
 cases l with
 | nil=>exact absurd rfl h
 | cons x xs =>
  simp only[List.cons_append,joinL,List.flatMap_append,List.flatMap_cons,List.flatMap_nil,List.append_nil,List.append_assoc]
theorem joinL_le (l:List ByteArray) (B:Nat) (h:∀ x ∈ l,x.size≤B):(joinL [44] l).length≤l.length * (B + 1):=by
 have key:∀ l:List ByteArray,(∀ x ∈ l,x.size≤B)→(l.flatMap fun y=>[44] ++ y.data.toList).length≤l.length * (B + 1):=by
  intro l
  induction l with
  | nil=>intro _;simp
  | cons x xs ih =>
   intro h
   have h1:=h x List.mem_cons_self;have h2:=ih (fun y hy=>h y (List.mem_cons_of_mem _ hy));simp only[List.flatMap_cons,List.length_append,data_length,List.length_cons,List.length_nil,Nat.add_mul]
   omega
 cases l with
 | nil=>simp[joinL]
 | cons x xs =>
  have h1:=h x List.mem_cons_self;have h2:=key xs (fun y hy=>h y (List.mem_cons_of_mem _ hy));simp only[joinL,List.length_append,data_length,List.length_cons,Nat.add_mul]
  omega
def okAt (x:S30):Prop:=okI x.f1∧okS x.f2∧okS x.f3
def gA (x:S30):Bool:=goodAtom x.f0 x.f1 x.f2 x.f3
def tA (x:S30):ByteArray:=textB x.f0 x.f1 x.f2 x.f3
def zA (k n:Int) (t ty:ByteArray):Bool:=(k == 0 && (n == 0 && (t.toList == ([]:List UInt8) && (ty.toList == ([]:List UInt8)))))
theorem rdA_nat {l:List S30} {i:Nat} (h:i < l.length):kw l (i:Int)=l[i]:=by simp[kw,List.getD_eq_getElem?_getD,List.getElem?_eq_getElem h]
theorem rdB_nat {l:List ByteArray} {i:Nat} (h:i < l.length):rdOf ByteArray.empty l (i:Int)=l[i]:=rdStr_nat h
theorem sGA_ev (x:S30) (h:okAt x):Ev (fun k=>qkq.f k x.f0 x.f1 x.f2 x.f3) (gA x):=specGoodAtom_ev _ _ _ _ h.2.1 h.2.2 (fun _=>h.1)
theorem iGA_ev (x:S30) (h:okAt x):Ev (fun k=>vw.f k x.f0 x.f1 x.f2 x.f3) (gA x):=implGoodAtom_ev _ _ _ _ h.2.1 h.2.2 (fun _=>h.1)
theorem hasA_ev:∀ (l:List S30),(∀ x ∈ l,okAt x)→Ev (fun k=>has_impl_GoodValue_1.f k l) (!l.all gA)
 | [],_=>Ev.now _
 | x :: xs,h=>by
  have ih:=hasA_ev xs (fun y hy=>h y (List.mem_cons_of_mem _ hy))
  show Ev (fun k=>((vw.f k x.f0 x.f1 x.f2 x.f3).bind fun t=>some (!t)).bind fun b=>if b=true then some true else has_impl_GoodValue_1.f k xs) _
  simp only[Option.bind_assoc,Option.bind_some];refine Ev.bind (iGA_ev x (h x List.mem_cons_self)) ?_;rw[List.all_cons]
  cases gA x
  ·simp only[Bool.not_false,if_true,Bool.false_and];exact Ev.now _
  ·simp only[Bool.not_true,Bool.false_eq_true,if_false,Bool.true_and];exact ih
def recOk (k n:Int) (t ty:ByteArray) (l:List S30) (ns:List ByteArray):Bool:=zA k n t ty && (decide (l.length≤50) && (decide (l.length=ns.length) && (ns.all goodName && (risingL ns && l.all gA))))
theorem implRec_ev (k n:Int) (t ty:ByteArray) (l:List S30) (ns:List ByteArray) (h:∀ x ∈ l,okAt x) (hn:okTexts ns):Ev (fun q=>wq.f q 3 k n t ty l ns) (recOk k n t ty l ns):=by
 simp only[wq.f,if_neg (show ¬ (3:Int)=1 by omega),if_neg (show ¬ (3:Int)=2 by omega),if_true,qzq.f,Option.bind_some];unfold recOk
 show Ev (fun q=>if zA k n t ty=true then _ else _) _
 cases zA k n t ty
 case false=>simp only[Bool.false_eq_true,if_false,Bool.false_and];exact Ev.now _
 simp only[if_true,Bool.true_and]
 by_cases h1:ns.length≤50
 case neg =>
  simp only[if_neg (show ¬ (ns.length:Int)≤50 by omega)]
  by_cases h2:l.length=ns.length
  ·rw[decide_eq_false (show ¬ l.length≤50 by omega),Bool.false_and];exact Ev.now _
  ·rw[decide_eq_false h2,Bool.false_and,Bool.and_false];exact Ev.now _
 simp only[if_pos (show(ns.length:Int)≤50 by omega)]
 by_cases h2:l.length=ns.length
 case neg=>simp only[if_neg (show ¬ (l.length:Int)=(ns.length:Int) by omega),decide_eq_false h2,Bool.false_and,Bool.and_false];exact Ev.now _
 simp only[if_pos (show(l.length:Int)=(ns.length:Int) by omega),decide_eq_true h2,decide_eq_true (show l.length≤50 by omega),Bool.true_and];refine Ev.bind (yallNames_ev ns hn) ?_
 cases ns.all goodName
 case false=>simp only[Bool.false_eq_true,if_false,Bool.false_and];exact Ev.now _
 simp only[if_true,Bool.true_and];refine Ev.bind (yrising_ev ns hn) ?_
 cases risingL ns
 case false=>simp only[Bool.false_eq_true,if_false,Bool.false_and];exact Ev.now _
 simp only[if_true,Bool.true_and];refine Ev.bind (hasA_ev l h) ?_;rw[Bool.not_not];exact Ev.now _
theorem specRec_l1 (k n:Int) (t ty:ByteArray) (l:List S30) (ns:List ByteArray) (hn:okTexts ns) (d:Nat):∀ i:Nat,i + d=ns.length→Ev (fun q=>qkj.l1 q ns (ns.length:Int) (i:Int) 3 k n t ty l ns) ((ns.drop i).all goodName && risN ns d):=by
 have hl:=hn.1
 induction d with
 | zero =>
  intro i e
  obtain rfl:i=ns.length:=by omega
  refine Ev.upW ?_;simp only[qkj.l1,if_neg (Int.lt_irrefl _)];rw[List.drop_length,List.all_nil,risN];exact Ev.now _
 | succ d ih =>
  intro i e
  have hlt:i < ns.length:=by omega
  have hrest:=ih (i + 1) (by omega);refine Ev.upW ?_;simp only[qkj.l1,if_pos (show(i:Int) < (ns.length:Int) by omega),if_pos (Int.natCast_nonneg i),wrap_succ hlt (by omega)];have hsz:=hn.2 _ (List.getElem_mem hlt);have hgn:=specName_ev (rdOf ByteArray.empty ns (i:Int)) (by have:=rd_sizes hn hlt;omega);rw[rdB_nat hlt] at hgn;rw[List.drop_eq_getElem_cons hlt,List.all_cons,risN,show ns.length - (d + 1)=i by omega];simp only[rdB_nat hlt];refine Ev.bind hgn ?_
  cases goodName ns[i]
  case false=>simp only[Bool.false_eq_true,if_false,Bool.false_and];exact Ev.now _
  simp only[if_true,Bool.true_and]
  by_cases h0 : 0 < i
  ·have e3:wrap64 ((i:Int) - 1)=((i - 1:Nat):Int):=by rw[w64 (by omega) (by omega)];omega
   have hlt2:i - 1 < ns.length:=by omega
   simp only[if_pos (show(i:Int) > 0 by omega),e3,if_pos (Int.natCast_nonneg (i - 1)),if_pos (show((i - 1:Nat):Int) < (ns.length:Int) by omega)];have hs2:=rd_sizes hn hlt2;have hs3:=rd_sizes hn hlt;have hc:=cmpT_ev (rdOf ByteArray.empty ns ((i - 1:Nat):Int)) (rdOf ByteArray.empty ns (i:Int)) (by omega) (by omega);rw[← rdB_nat hlt];refine Ev.bind hc ?_
   by_cases hcc:cmpT (rdOf ByteArray.empty ns ((i - 1:Nat):Int)) (rdOf ByteArray.empty ns (i:Int)) < 0
   ·simp only[if_neg (show ¬ cmpT (rdOf ByteArray.empty ns ((i - 1:Nat):Int)) (rdOf ByteArray.empty ns (i:Int)) ≥ 0 by omega),if_neg (show ¬ aheadS ns i from fun h=>h.2 hcc)];exact hrest
   ·simp only[if_pos (show cmpT (rdOf ByteArray.empty ns ((i - 1:Nat):Int)) (rdOf ByteArray.empty ns (i:Int)) ≥ 0 by omega),if_pos (show aheadS ns i from⟨h0,hcc⟩),Bool.and_false];exact Ev.now _
  ·simp only[if_neg (show ¬ (i:Int) > 0 by omega),if_neg (show ¬ aheadS ns i from fun h=>h0 h.1)];exact hrest
theorem specRec_l0 (k n:Int) (t ty:ByteArray) (l:List S30) (ns:List ByteArray) (h:∀ x ∈ l,okAt x) (hl:l.length≤1048576) (hn:okTexts ns) (d:Nat):∀ i:Nat,i + d=l.length→Ev (fun q=>qkj.l0 q l (l.length:Int) (i:Int) 3 k n t ty l ns) ((l.drop i).all gA && (decide (l.length=ns.length) && (ns.all goodName && risingL ns))):=by
 induction d with
 | zero =>
  intro i e
  obtain rfl:i=l.length:=by omega
  refine Ev.upW ?_;simp only[qkj.l0,if_neg (Int.lt_irrefl _),if_neg (show ¬ (3:Int)=2 by omega)];rw[List.drop_length,List.all_nil,Bool.true_and]
  by_cases h2:l.length=ns.length
  ·simp only[if_pos (show(ns.length:Int)=(l.length:Int) by omega),decide_eq_true h2,Bool.true_and];have:=specRec_l1 k n t ty l ns hn ns.length 0 (by omega);rw[List.drop_zero] at this;exact this
  ·simp only[if_neg (show ¬ (ns.length:Int)=(l.length:Int) by omega),decide_eq_false h2,Bool.false_and];exact Ev.now _
 | succ d ih =>
  intro i e
  have hlt:i < l.length:=by omega
  refine Ev.upW ?_;simp only[qkj.l0,if_pos (show(i:Int) < (l.length:Int) by omega),if_pos (Int.natCast_nonneg i),rdA_nat hlt,wrap_succ hlt (by omega),if_neg (show ¬ (3:Int)=2 by omega)];refine Ev.bind (sGA_ev _ (h _ (List.getElem_mem hlt))) ?_;rw[List.drop_eq_getElem_cons hlt,List.all_cons]
  cases gA l[i]
  case false=>simp only[Bool.false_eq_true,if_false,Bool.false_and];exact Ev.now _
  simp only[if_true,Bool.true_and];exact ih (i + 1) (by omega)
theorem specRec_ev (k n:Int) (t ty:ByteArray) (l:List S30) (ns:List ByteArray) (h:∀ x ∈ l,okAt x) (hl:l.length≤1048576) (hn:okTexts ns):Ev (fun q=>qkj.f q 3 k n t ty l ns) (recOk k n t ty l ns):=by
 simp only[qkj.f,if_neg (show ¬ (3:Int)=1 by omega),if_neg (show ¬ (3:Int)=2 by omega)];refine Ev.upW (Ev.upW ?_);simp only[qkj.j0,show((3:Int) == 3)=true from rfl,if_true]
 have ez:(!(k == 0) || (!(n == 0) || (!(t.toList == ([]:List UInt8)) || (!(ty.toList == ([]:List UInt8)))))) = !zA k n t ty:=by
  unfold zA
  cases (k == 0) <;> cases (n == 0) <;> cases (t.toList == ([]:List UInt8)) <;> cases (ty.toList == ([]:List UInt8)) <;> rfl
 rw[ez];unfold recOk
 cases zA k n t ty
 case false=>simp only[Bool.not_false,if_true,qkj.j1,Bool.false_and];exact Ev.now _
 simp only[Bool.not_true,Bool.false_eq_true,if_false,qkj.j1,Bool.true_and]
 by_cases h1:l.length≤50
 case neg=>simp only[decide_eq_true (show(l.length:Int) > 50 by omega),if_true,decide_eq_false h1,Bool.false_and];exact Ev.now _
 simp only[decide_eq_false (show ¬ (l.length:Int) > 50 by omega),Bool.false_eq_true,if_false,decide_eq_true h1,Bool.true_and];have:=specRec_l0 k n t ty l ns h hl hn l.length 0 (by omega);rw[List.drop_zero] at this
 have e:(decide (l.length=ns.length) && (ns.all goodName && (risingL ns && l.all gA)))=(l.all gA && (decide (l.length=ns.length) && (ns.all goodName && risingL ns))):=by
  cases decide (l.length=ns.length) <;> cases ns.all goodName <;> cases risingL ns <;> cases l.all gA <;> rfl
 rw[e];exact this
theorem rec_parts {k n:Int} {t ty:ByteArray} {l:List S30} {ns:List ByteArray} (h:recOk k n t ty l ns=true):l.length≤50∧l.length=ns.length∧(∀ x ∈ ns,x.size≤30)∧∀ x ∈ l,gA x=true:=by
 unfold recOk at h;simp only[Bool.and_eq_true,decide_eq_true_eq] at h;exact⟨h.2.1,h.2.2.1,fun x hx=>(name_size (List.all_eq_true.1 h.2.2.2.1 x hx)).2,fun x hx=>List.all_eq_true.1 h.2.2.2.2.2 x hx⟩
def entB (x:S30) (s:ByteArray):ByteArray:=(s ++ (⟨#[58]⟩ : ByteArray)) ++ tA x
def ents (l:List S30) (ns:List ByteArray):List ByteArray:=List.zipWith entB l ns
def recB (l:List S30) (ns:List ByteArray):ByteArray:=((⟨#[123]⟩ : ByteArray) ++ ⟨(joinL [44] (ents l ns)).toArray⟩) ++ (⟨#[125]⟩ : ByteArray)
theorem ents_len (l:List S30) (ns:List ByteArray) (h:l.length=ns.length):(ents l ns).length=l.length:=by unfold ents;rw[List.length_zipWith];omega
theorem ents_at (l:List S30) (ns:List ByteArray) (h:l.length=ns.length) (i:Nat) (hi:i < l.length):(ents l ns)[i]'(by rw[ents_len l ns h];exact hi)=entB l[i] (ns[i]'(by omega)):=by
 unfold ents;rw[List.getElem_zipWith]
theorem ents_take (l:List S30) (ns:List ByteArray) (h:l.length=ns.length) (i:Nat) (hi:i < l.length):(ents l ns).take (i + 1)=(ents l ns).take i ++ [entB l[i] (ns[i]'(by omega))]:=by
 rw[List.take_succ_eq_append_getElem (by rw[ents_len l ns h];exact hi),ents_at l ns h i hi]
theorem ent_le {x:S30} {s:ByteArray} (hx:okAt x) (hg:gA x=true) (hs:s.size≤30):(tA x).size≤500∧(entB x s).size≤540:=by
 have h1:(tA x).size≤500:=textB_le hg hx.1;refine⟨h1,?_⟩;unfold entB;rw[ByteArray.size_append,ByteArray.size_append,show(⟨#[58]⟩ : ByteArray).size=1 from rfl]
 omega
theorem ents_small (l:List S30) (ns:List ByteArray) (h:∀ x ∈ l,okAt x) (hg:∀ x ∈ l,gA x=true) (hn:∀ x ∈ ns,x.size≤30):∀ y ∈ ents l ns,y.size≤540:=by
 intro y hy
 unfold ents at hy;obtain⟨i,hi,rfl⟩:=List.getElem_of_mem hy;rw[List.getElem_zipWith];rw[List.length_zipWith] at hi;exact(ent_le (h _ (List.getElem_mem (by omega))) (hg _ (List.getElem_mem (by omega))) (hn _ (List.getElem_mem (by omega)))).2
theorem arrJ (u:List UInt8):(⟨u.toArray⟩ : ByteArray).size=u.length:=List.size_toArray
theorem arr_first (x:S30) (s:ByteArray):(((⟨([]:List UInt8).toArray⟩ : ByteArray) ++ (s ++ (⟨#[58]⟩ : ByteArray))) ++ tA x) = ⟨(joinL [44] [entB x s]).toArray⟩:=by
 apply ByteArray.ext
 simp only[ByteArray.data_append,joinL,entB,List.flatMap_nil,List.append_nil]
 apply Array.toList_inj.1
 simp
theorem arr_more (u:List UInt8) (x:S30) (s:ByteArray):((((⟨u.toArray⟩ : ByteArray) ++ (⟨#[44]⟩ : ByteArray)) ++ (s ++ (⟨#[58]⟩ : ByteArray))) ++ tA x) = ⟨(u ++ ([44] ++ (entB x s).data.toList)).toArray⟩:=by
 apply ByteArray.ext
 simp only[ByteArray.data_append,entB]
 apply Array.toList_inj.1
 simp
theorem specVal_l0 (k n:Int) (t ty:ByteArray) (l:List S30) (ns:List ByteArray) (h:∀ x ∈ l,okAt x) (hg:∀ x ∈ l,gA x=true) (hl:l.length≤50) (he:l.length=ns.length) (hn:∀ x ∈ ns,x.size≤30) (d:Nat):∀ i:Nat,i + d=l.length→Ev (fun q=>qkv.l0 q (⟨(joinL [44] ((ents l ns).take i)).toArray⟩ : ByteArray) l (l.length:Int) (i:Int) 3 k n t ty l ns) (recB l ns):=by
 have hes:=ents_small l ns h hg hn;have z1:(⟨#[58]⟩ : ByteArray).size=1:=rfl;have z2:(⟨#[44]⟩ : ByteArray).size=1:=rfl;have z3:(⟨#[123]⟩ : ByteArray).size=1:=rfl
 have hle:∀ i,(joinL [44] ((ents l ns).take i)).length≤27050:=fun i=>by
  have h1:=joinL_le ((ents l ns).take i) 540 (fun y hy=>hes y (List.mem_of_mem_take hy));have h2:((ents l ns).take i).length≤50:=by rw[jq4,ents_len l ns he];omega
  omega
 induction d with
 | zero =>
  intro i e
  obtain rfl:i=l.length:=by omega
  have hz:=hle l.length;refine Ev.upW ?_;simp only[qkv.l0,if_neg (Int.lt_irrefl _),if_true];rw[List.take_of_length_le (by rw[ents_len l ns he];exact Nat.le_refl _)] at hz ⊢;have hzz:(⟨(joinL [44] (ents l ns)).toArray⟩ : ByteArray).size≤27050:=by rw[arrJ];exact hz
  refine Ev.ifP (by omega) ?_;refine Ev.ifP (by rw[ByteArray.size_append];omega) ?_;exact Ev.now _
 | succ d ih =>
  intro i e
  have hlt:i < l.length:=by omega
  have hlt2:i < ns.length:=by omega
  have hz:=hle i;have hx:=ent_le (h _ (List.getElem_mem hlt)) (hg _ (List.getElem_mem hlt)) (hn _ (List.getElem_mem hlt2));have hs:=hn _ (List.getElem_mem hlt2);have hi:=ih (i + 1) (by omega);rw[ents_take l ns he i hlt] at hi;have ht:=specText_ev l[i].f0 l[i].f1 l[i].f2 l[i].f3 (h _ (List.getElem_mem hlt)).1 (hg _ (List.getElem_mem hlt));refine Ev.upW ?_;simp only[qkv.l0,if_pos (show(i:Int) < (l.length:Int) by omega),if_pos (Int.natCast_nonneg i),rdA_nat hlt,rdB_nat hlt2,wrap_succ hlt (by omega),if_true,if_pos (show(i:Int) < (ns.length:Int) by omega)]
  by_cases h0 : 0 < i
  ·simp only[if_pos (show(i:Int) > 0 by omega)];refine Ev.ifP (by rw[arrJ];omega) ?_;refine Ev.ifP (by omega) ?_;refine Ev.ifP (by rw[ByteArray.size_append,arrJ,ByteArray.size_append];omega) ?_;refine Ev.bind ht ?_;have hx1:(textB l[i].f0 l[i].f1 l[i].f2 l[i].f3).size≤500:=hx.1;refine Ev.ifP (by rw[ByteArray.size_append,ByteArray.size_append,ByteArray.size_append,arrJ];omega) ?_;have ea:=arr_more (joinL [44] ((ents l ns).take i)) l[i] ns[i];unfold tA at ea;rw[ea];rw[joinL_snoc _ _ _ (by intro hnil;have:=congrArg List.length hnil;rw[jq4,ents_len l ns he] at this;simp only[List.length_nil] at this;omega)] at hi;exact hi
  ·obtain rfl:i=0:=by omega
   simp only[if_neg (show ¬ (((0:Nat):Int) > 0) by omega)];refine Ev.ifP (by omega) ?_;refine Ev.ifP (by rw[arrJ,ByteArray.size_append];omega) ?_;refine Ev.bind ht ?_;have hx1:(textB l[0].f0 l[0].f1 l[0].f2 l[0].f3).size≤500:=hx.1;refine Ev.ifP (by rw[ByteArray.size_append,ByteArray.size_append,arrJ];omega) ?_;have ea:=arr_first l[0] ns[0];unfold tA at ea;rw[List.take_zero] at hi ⊢;rw[List.nil_append] at hi;rw[show joinL [44] ([]:List ByteArray)=[] from rfl,ea];exact hi
theorem specVal_ev (k n:Int) (t ty:ByteArray) (l:List S30) (ns:List ByteArray) (h:∀ x ∈ l,okAt x) (hl:l.length≤1048576) (hn:okTexts ns):Ev (fun q=>qkv.f q 3 k n t ty l ns) (if recOk k n t ty l ns=true then recB l ns else⟨#[]⟩):=by
 simp only[qkv.f];refine Ev.bind (specRec_ev k n t ty l ns h hl hn) ?_
 cases hr:recOk k n t ty l ns
 case false=>simp only[Bool.false_eq_true,if_false];exact Ev.now _
 obtain⟨q1,q2,q3,q4⟩:=rec_parts hr;simp only[if_true,if_neg (show ¬ (3:Int)=1 by omega)];have:=specVal_l0 k n t ty l ns h q4 q1 q2 q3 l.length 0 (by omega);rw[List.take_zero,show joinL [44] ([]:List ByteArray)=[] from rfl] at this;exact this
theorem implVal_l0 (k n:Int) (t ty:ByteArray) (l:List S30) (ns:List ByteArray) (h:∀ x ∈ l,okAt x) (hg:∀ x ∈ l,gA x=true) (hl:l.length≤50) (he:l.length=ns.length) (hn:∀ x ∈ ns,x.size≤30) (d:Nat):∀ i:Nat,i + d=l.length→Ev (fun q=>ww.l0 q ((ents l ns).take i) l (l.length:Int) (i:Int) 3 k n t ty l ns) (recB l ns):=by
 have hes:=ents_small l ns h hg hn;have z1:(⟨#[58]⟩ : ByteArray).size=1:=rfl;have z3:(⟨#[123]⟩ : ByteArray).size=1:=rfl
 have hz:(joinL [44] (ents l ns)).length≤27050:=by
  have h1:=joinL_le (ents l ns) 540 hes;have h2:(ents l ns).length≤50:=by rw[ents_len l ns he];omega
  omega
 induction d with
 | zero =>
  intro i e
  obtain rfl:i=l.length:=by omega
  refine Ev.upW ?_;simp only[ww.l0,if_neg (Int.lt_irrefl _),if_true,if_neg (show ¬ (3:Int)=2 by omega)];rw[List.take_of_length_le (by rw[ents_len l ns he];exact Nat.le_refl _)]
  have hj:zqx.f (ents l ns) (⟨#[44]⟩ : ByteArray)=some ⟨(joinL [44] (ents l ns)).toArray⟩:=by
   unfold zqx.f;rw[if_pos ⟨by rw[ents_len l ns he];omega,by decide,by decide,fun y hy=>Nat.le_trans (hes y hy) (by omega)⟩]
  simp only[hj,Option.bind_some];have hzz:(⟨(joinL [44] (ents l ns)).toArray⟩ : ByteArray).size≤27050:=by rw[arrJ];exact hz
  refine Ev.ifP (by omega) ?_;refine Ev.ifP (by rw[ByteArray.size_append];omega) ?_;exact Ev.now _
 | succ d ih =>
  intro i e
  have hlt:i < l.length:=by omega
  have hlt2:i < ns.length:=by omega
  have hx:=ent_le (h _ (List.getElem_mem hlt)) (hg _ (List.getElem_mem hlt)) (hn _ (List.getElem_mem hlt2));have hs:=hn _ (List.getElem_mem hlt2);have hi:=ih (i + 1) (by omega);rw[ents_take l ns he i hlt] at hi;have hok:=h _ (List.getElem_mem hlt);have ht:=implText_ev l[i].f0 l[i].f1 l[i].f2 l[i].f3 hok.2.1 hok.2.2 hok.1;have hgi:goodAtom l[i].f0 l[i].f1 l[i].f2 l[i].f3=true:=hg _ (List.getElem_mem hlt);rw[if_pos hgi] at ht;refine Ev.upW ?_;simp only[ww.l0,if_pos (show(i:Int) < (l.length:Int) by omega),if_pos (Int.natCast_nonneg i),rdA_nat hlt,rdB_nat hlt2,wrap_succ hlt (by omega),if_true,if_pos (show(i:Int) < (ns.length:Int) by omega)];refine Ev.bind ht ?_;have hx1:(textB l[i].f0 l[i].f1 l[i].f2 l[i].f3).size≤500:=hx.1;refine Ev.ifP (by omega) ?_;refine Ev.ifP (by rw[ByteArray.size_append];omega) ?_;refine Ev.ifP (by rw[jq4,ents_len l ns he];omega) ?_;exact hi
theorem implVal_ev (k n:Int) (t ty:ByteArray) (l:List S30) (ns:List ByteArray) (h:∀ x ∈ l,okAt x) (hn:okTexts ns):Ev (fun q=>ww.f q 3 k n t ty l ns) (if recOk k n t ty l ns=true then recB l ns else⟨#[]⟩):=by
 simp only[ww.f];refine Ev.bind (implRec_ev k n t ty l ns h hn) ?_
 cases hr:recOk k n t ty l ns
 case false=>simp only[Bool.false_eq_true,if_false];exact Ev.now _
 obtain⟨q1,q2,q3,q4⟩:=rec_parts hr;simp only[if_true];have:=implVal_l0 k n t ty l ns h q4 q1 q2 q3 l.length 0 (by omega);rw[List.take_zero] at this;exact this
def pwm (b:Int) (e:Nat):Int:=b ^ e % 2147483579
theorem pwm_range (b:Int) (e:Nat) : 0≤pwm b e∧pwm b e < 2147483579:=⟨Int.emod_nonneg _ (by omega),Int.emod_lt_of_pos _ (by omega)⟩
theorem pow_emod' (a m:Int) (n:Nat):(a % m) ^ n % m=a ^ n % m:=by
 induction n with
 | zero=>simp
 | succ n ih=>rw[Int.pow_succ,Int.pow_succ,Int.mul_emod,ih,Int.emod_emod,← Int.mul_emod]
theorem pow_double (x:Int) (h:Nat):x ^ (2 * h)=(x * x) ^ h:=by
 induction h with
 | zero=>simp
 | succ h ih=>rw[show 2 * (h + 1)=2 * h + 1 + 1 by omega,Int.pow_succ,Int.pow_succ,ih,Int.pow_succ,Int.mul_assoc]
theorem mulP {a b:Int} (ha : 0≤a) (ha2:a < 2147483579) (hb : 0≤b) (hb2:b < 2147483579) : 0≤a * b∧a * b≤4611685717779682084:=by
 refine⟨Int.mul_nonneg ha hb,?_⟩;have:=Int.mul_le_mul (show a≤2147483578 by omega) (show b≤2147483578 by omega) hb (by omega)
 omega
theorem mulM {a b:Int} (ha : 0≤a) (ha2:a < 2147483579) (hb : 0≤b) (hb2:b < 2147483579):Int.tmod (wrap64 (a * b)) 2147483579=a * b % 2147483579:=by
 have:=mulP ha ha2 hb hb2;rw[w64 (by omega) (by omega),Int.tmod_eq_emod_of_nonneg this.1]
theorem and1 (e:Nat) (he:e < 9223372036854775808):Go.bits .and .i64 (e:Int) 1=((e % 2:Nat):Int):=by
 have h1:(BitVec.ofInt 64 (e:Int)).toNat=e:=by
  rw[BitVec.ofInt_natCast,BitVec.toNat_ofNat];exact Nat.mod_eq_of_lt (by omega)
 have h:((BitVec.ofInt 64 (e:Int)) &&& (BitVec.ofInt 64 1)).toNat=e % 2:=by
  rw[BitVec.toNat_and,h1];exact Nat.and_one_is_mod e
 have e0:Go.bits .and .i64 (e:Int) 1=IntKind.i64.wrap ((((BitVec.ofInt 64 (e:Int)) &&& (BitVec.ofInt 64 1)).toNat:Nat):Int):=rfl;rw[e0,h];exact IntWalk.i64_in _ (by omega)
theorem ypow_l0:∀ (f k e:Nat) (x0 x7:Int),0≤x0→x0 < 2147483579→0≤x7→x7 < 2147483579→e < 2 ^ f→f≤60→f < k→qqz.l0 k x0 e 2147483579 x7=some (x7 * x0 ^ e % 2147483579):=by
 intro f
 induction f with
 | zero =>
  intro k e x0 x7 h0 h1 h2 h3 he hf hk
  obtain⟨k,rfl⟩ : ∃ m,k=m + 1:=⟨k - 1,by omega⟩;obtain rfl:e=0:=by simpa using he
  simp only[qqz.l0,if_neg (show ¬ (((0:Nat):Int) > 0) by omega)];rw[Int.pow_zero,Int.mul_one,Int.emod_eq_of_lt h2 h3]
 | succ f ih =>
  intro k e x0 x7 h0 h1 h2 h3 he hf hk
  obtain⟨k,rfl⟩ : ∃ m,k=m + 1:=⟨k - 1,by omega⟩
  by_cases hz:e=0
  ·subst hz;simp only[qqz.l0,if_neg (show ¬ (((0:Nat):Int) > 0) by omega)];rw[Int.pow_zero,Int.mul_one,Int.emod_eq_of_lt h2 h3]
  ·have hlim:e < 9223372036854775808:=Nat.lt_of_lt_of_le he (Nat.le_trans (Nat.pow_le_pow_right (by omega) (show f + 1≤61 by omega)) (by decide));have hdiv:((e:Int) / 2)=((e / 2:Nat):Int):=by omega
   have hhalf:e / 2 < 2 ^ f:=by rw[Nat.pow_succ] at he;omega
   have s0 : 0≤x0 * x0 % 2147483579:=Int.emod_nonneg _ (by omega);have s1:x0 * x0 % 2147483579 < 2147483579:=Int.emod_lt_of_pos _ (by omega);have t0 : 0≤x7 * x0 % 2147483579:=Int.emod_nonneg _ (by omega);have t1:x7 * x0 % 2147483579 < 2147483579:=Int.emod_lt_of_pos _ (by omega);simp only[qqz.l0,if_pos (show((e:Int) > 0) by omega),and1 e hlim,if_neg (show ¬ ((2147483579:Int)=0) by omega),mulM h0 h1 h0 h1,mulM h2 h3 h0 h1,hdiv]
   by_cases ho:e % 2=1
   ·rw[if_pos (by omega),ih k (e / 2) _ _ s0 s1 t0 t1 hhalf (by omega) (by omega)]
    congr 1
    rw[Int.mul_emod,pow_emod',Int.emod_emod,← Int.mul_emod,← pow_double]
    conv=>rhs;rw[show e=2 * (e / 2) + 1 by omega,Int.pow_succ]
    congr 1
    ac_rfl
   ·rw[if_neg (by omega),ih k (e / 2) _ _ s0 s1 h2 h3 hhalf (by omega) (by omega)]
    congr 1
    rw[Int.mul_emod,pow_emod',← Int.mul_emod,← pow_double]
    conv=>rhs;rw[show e=2 * (e / 2) by omega]
theorem ypow_eq (b:Int) (e:Nat) (h0 : 0≤b) (h1:b < 2147483579) (he:e < 2199023255552) (k:Nat) (hk : 50≤k):qqz.f k b e 2147483579=some (pwm b e):=by
 unfold qqz.f;rw[if_neg (by omega),Int.tmod_eq_emod_of_nonneg h0,Int.emod_eq_of_lt h0 h1,ypow_l0 41 k e b 1 h0 h1 (by omega) (by omega) (by simpa using he) (by omega) (by omega),Int.one_mul]
 rfl
theorem shr_nat (e n:Nat) (hn:n≤64):shr .i64 (e:Int) (n:Int)=((e / 2 ^ n:Nat):Int):=by
 unfold shr;rw[Int.toNat_natCast,Nat.min_eq_left (show n≤IntKind.i64.bits from hn)];simp
theorem l2Power_l0 (e:Nat) (he:e < 2199023255552) (x0:Int) (h0 : 0≤x0) (h1:x0 < 2147483579):∀ (n k:Nat) (x7:Int),n≤41→x7=x0 ^ (e / 2 ^ n) % 2147483579→n < k→qxv.l0 k x0 e 2147483579 x7 ((n:Int) - 1)=some (x0 ^ e % 2147483579):=by
 intro n
 induction n with
 | zero =>
  intro k x7 hn hx hk
  obtain⟨k,rfl⟩ : ∃ m,k=m + 1:=⟨k - 1,by omega⟩;simp only[qxv.l0,if_neg (show ¬ (((0:Nat):Int) - 1 ≥ 0) by omega)];rw[hx,Nat.pow_zero,Nat.div_one]
 | succ n ih =>
  intro k x7 hn hx hk
  obtain⟨k,rfl⟩ : ∃ m,k=m + 1:=⟨k - 1,by omega⟩;have en:(((n + 1:Nat):Int) - 1)=(n:Int):=by omega
  have ew:IntKind.u64.wrap (n:Int)=(n:Int):=by rw[IntKind.wrap_u64];omega
  have em:wrap64 ((n:Int) - 1)=(n:Int) - 1:=w64 (by omega) (by omega);have hq:e / 2 ^ n < 9223372036854775808:=Nat.lt_of_le_of_lt (Nat.div_le_self _ _) (by omega);have hh:e / 2 ^ (n + 1)=(e / 2 ^ n) / 2:=by rw[Nat.pow_succ,Nat.div_div_eq_div_mul]
  have x0' : 0≤x7:=by rw[hx];exact Int.emod_nonneg _ (by omega)
  have x1':x7 < 2147483579:=by rw[hx];exact Int.emod_lt_of_pos _ (by omega)
  have s0 : 0≤x7 * x7 % 2147483579:=Int.emod_nonneg _ (by omega);have s1:x7 * x7 % 2147483579 < 2147483579:=Int.emod_lt_of_pos _ (by omega)
  have hsq:x7 * x7 % 2147483579=x0 ^ (2 * ((e / 2 ^ n) / 2)) % 2147483579:=by
   rw[hx,hh,← Int.mul_emod,Nat.two_mul,Int.pow_add]
  simp only[qxv.l0,en,if_pos (show((n:Int) ≥ 0) by omega),if_neg (show ¬ ((2147483579:Int)=0) by omega),ew,shr_nat e n (by omega),and1 _ hq,mulM x0' x1' x0' x1',mulM s0 s1 h0 h1,em]
  by_cases ho:(e / 2 ^ n) % 2=1
  ·rw[if_pos (by omega)];refine ih k _ (by omega) ?_ (by omega);rw[hsq,Int.mul_emod,Int.emod_emod,← Int.mul_emod,← Int.pow_succ,Nat.succ_eq_add_one,show 2 * (e / 2 ^ n / 2) + 1=e / 2 ^ n by omega]
  ·rw[if_neg (by omega)];refine ih k _ (by omega) ?_ (by omega);rw[hsq,show 2 * (e / 2 ^ n / 2)=e / 2 ^ n by omega]
theorem l2Power_eq (b:Int) (e:Nat) (h0 : 0≤b) (h1:b < 2147483579) (he:e < 2199023255552) (k:Nat) (hk : 50≤k):qxv.f k b e 2147483579=some (pwm b e):=by
 unfold qxv.f;exact l2Power_l0 e he b h0 h1 41 k 1 (by omega) (by rw[Nat.div_eq_of_lt (by simpa using he),Int.pow_zero];rfl) (by omega)
attribute [irreducible] pwm
def inP (a:List Int):Prop:=a.length=4∧∀ j,j < 4→0≤a.getD j 0∧a.getD j 0 < 2147483579
theorem inP_start:inP [11,22,33,44]:=⟨rfl,by decide⟩
theorem inP_mix {a:List Int} (h:inP a) (x:Int) (hx : 0≤x):inP (dgMix a x):=⟨by rw[dgMix,mix_len,h.1],mix_bd a x hx h.1 h.2 4 (by omega)⟩
theorem dgAll_cons (a:List Int) (x:Int) (l:List Int):dgAll a (x :: l)=dgAll (dgMix a x) l:=rfl
theorem mt_at (i:Nat) (h:i < 4):rd [1103515245,69069,1664525,22695477] (i:Int)=mulT.getD i 0:=by
 match i,h with
 | 0,_=>rfl
 | 1,_=>rfl
 | 2,_=>rfl
 | 3,_=>rfl
theorem rd_getD (l:List Int) (i:Nat):rd l (i:Int)=l.getD i 0:=by simp[rd]
theorem specMix_step (l:List Int) (h:inP l) (x:Int) (hx : 0≤x∧x≤255) (i:Nat) (hi:i < 4) (k:Nat) :
  qxj.l0 (k + 1) (mixN l x i) x [1103515245,69069,1664525,22695477] i=qxj.l0 k (mixN l x (i + 1)) x [1103515245,69069,1664525,22695477] ((i + 1:Nat):Int):=by
 have hlen:(mixN l x i).length=4:=by rw[mix_len,h.1]
 have b1:=mix_bd l x hx.1 h.1 h.2 i (by omega) i hi;have b2:=mix_bd l x hx.1 h.1 h.2 i (by omega) ((i + 1) % 4) (by omega);have b3:=mulOk i hi;simp only[qxj.l0];rw[w64 (n:=(i:Int) + 1) (by omega) (by omega)];have e6:Int.tmod ((i:Int) + 1) 4=((i + 1) % 4:Nat):=by rw[Int.tmod_eq_emod_of_nonneg (by omega)];omega
 rw[e6,mt_at i hi,rd_getD,rd_getD];obtain⟨p1,e1⟩ : ∃ p,p=(mixN l x i).getD i 0:=⟨_,rfl⟩;obtain⟨p2,e2⟩ : ∃ p,p=(mixN l x i).getD ((i + 1) % 4) 0:=⟨_,rfl⟩;obtain⟨p3,e3⟩ : ∃ p,p=mulT.getD i 0:=⟨_,rfl⟩;have e5:mixN l x (i + 1)=(mixN l x i).set i ((p1 * p3 + x + 1 + p2) % 2147483579):=by rw[e1,e2,e3];rfl
 rw[e5,← e1,← e2,← e3];rw[← e1] at b1;rw[← e2] at b2;rw[← e3] at b3
 have b4:=prod_bd b1.1 b1.2 b3.1 b3.2;rw[if_pos (by omega),if_pos (by omega),if_pos (by omega),if_pos (by simp;omega),if_pos (by omega),if_pos (by omega),w64 (n:=p1 * p3) (by omega) (by omega),w64 (n:=p1 * p3 + x) (by omega) (by omega),w64 (n:=p1 * p3 + x + 1) (by omega) (by omega),w64 (by omega) (by omega),Int.tmod_eq_emod_of_nonneg (by omega),Int.toNat_natCast]
 rfl
theorem specMix_eq (l:List Int) (h:inP l) (x:Int) (hx : 0≤x∧x≤255) (k:Nat) (hk : 5≤k):qxj.f k l x=some (dgMix l x):=by
 obtain⟨k,rfl⟩ : ∃ m,k=m + 5:=⟨k - 5,by omega⟩;unfold qxj.f;have e0:=specMix_step l h x hx 0 (by omega) (k + 4);have e1:=specMix_step l h x hx 1 (by omega) (k + 3);have e2:=specMix_step l h x hx 2 (by omega) (k + 2);have e3:=specMix_step l h x hx 3 (by omega) (k + 1)
 have e4:qxj.l0 (k + 1) (mixN l x 4) x [1103515245,69069,1664525,22695477] ((3 + 1:Nat):Int)=some (mixN l x 4):=by
  simp only[qxj.l0];rw[if_neg (by omega)]
 exact e0.trans (e1.trans (e2.trans (e3.trans e4)))
theorem tm256 (n:Int) (h : 0≤n):Int.tmod n 256 % 256=n % 256:=by rw[Int.tmod_eq_emod_of_nonneg h];omega
theorem td256 (n:Int) (h : 0≤n) (h2:n≤9223372036854775807):wrap64 (Int.tdiv n 256)=n / 256:=by
 rw[Int.tdiv_eq_ediv_of_nonneg h,w64 (by omega) (by omega)]
theorem specBytes_eq (n:Int) (h : 0≤n) (h2:n≤9223372036854775807) (k:Nat) (hk : 5≤k):qwv.f k n=some (yb n):=by
 obtain⟨k,rfl⟩ : ∃ m,k=m + 5:=⟨k - 5,by omega⟩;unfold qwv.f;rw[if_pos (by omega)];simp only[Option.bind_some,List.length_replicate];simp only[qwv.l0];have a1:=td256 n h h2;have a2:=td256 (n / 256) (by omega) (by omega);have a3:=td256 (n / 256 / 256) (by omega) (by omega);have w1:wrap64 ((0:Int) + 1)=1:=by unfold wrap64;omega
 have w2:wrap64 ((1:Int) + 1)=2:=by unfold wrap64;omega
 have w3:wrap64 ((2:Int) + 1)=3:=by unfold wrap64;omega
 have w4:wrap64 ((3:Int) + 1)=4:=by unfold wrap64;omega
 rw[w1,w2,w3,w4,a1,a2,a3,tm256 n h,tm256 _ (by omega),tm256 _ (by omega),tm256 _ (by omega)];simp[yb,List.replicate]
 omega
theorem specDig_l3 (a:List Int) (h:inP a):∀ (k:Nat),10≤k→qww.l3 k [] a (a.length:Int) 0=some (a.flatMap yb):=by
 intro k hk
 obtain⟨k,rfl⟩ : ∃ m,k=m + 10:=⟨k - 10,by omega⟩;obtain⟨hl,hb⟩:=h
 match a,hl with
 | [b0,b1,b2,b3],_ =>
  have h0:=hb 0 (by omega);have h1:=hb 1 (by omega);have h2:=hb 2 (by omega);have h3:=hb 3 (by omega);simp only[List.getD_cons_zero,List.getD_cons_succ] at h0 h1 h2 h3;have w1:wrap64 ((0:Int) + 1)=1:=by unfold wrap64;omega
  have w2:wrap64 ((1:Int) + 1)=2:=by unfold wrap64;omega
  have w3:wrap64 ((2:Int) + 1)=3:=by unfold wrap64;omega
  have w4:wrap64 ((3:Int) + 1)=4:=by unfold wrap64;omega
  have r0:rd [b0,b1,b2,b3] 0=b0:=rfl;have r1:rd [b0,b1,b2,b3] 1=b1:=rfl;have r2:rd [b0,b1,b2,b3] 2=b2:=rfl;have r3:rd [b0,b1,b2,b3] 3=b3:=rfl;simp only[qww.l3,w1,w2,w3,w4,r0,r1,r2,r3];rw[specBytes_eq b0 (by omega) (by omega) _ (by omega),specBytes_eq b1 (by omega) (by omega) _ (by omega),specBytes_eq b2 (by omega) (by omega) _ (by omega),specBytes_eq b3 (by omega) (by omega) _ (by omega)];simp[yb]
theorem specDig_l2 (d:Nat):∀ (a:List Int) (k i:Nat),inP a→i + d=8→d + 12≤k→qww.l2 k a i=some ((dgAll a (List.replicate d 0)).flatMap yb):=by
 induction d with
 | zero =>
  intro a k i h hi hk
  obtain⟨k,rfl⟩ : ∃ m,k=m + 1:=⟨k - 1,by omega⟩;simp only[qww.l2];rw[if_neg (by omega),specDig_l3 a h k (by omega)];rfl
 | succ d ih =>
  intro a k i h hi hk
  obtain⟨k,rfl⟩ : ∃ m,k=m + 1:=⟨k - 1,by omega⟩;simp only[qww.l2];rw[if_pos (by omega),specMix_eq a h 0 (by omega) k (by omega)];simp only[Option.bind_some];rw[w64 (by omega) (by omega),show((i:Int) + 1)=((i + 1:Nat):Int) from rfl,ih (dgMix a 0) k (i + 1) (inP_mix h 0 (by omega)) (by omega) (by omega)]
  rfl
theorem wbyte {x:Int} (h : 0≤x∧x≤255):wrap64 x=x:=w64 (by omega) (by omega)
theorem drop_rd {l:List Int} {i:Nat} (h:i < l.length):l.drop i=rd l i :: l.drop (i + 1):=by rw[List.drop_eq_getElem_cons h,rd_nat h]
theorem specDig_l1 (xs:List Int) (hx:isBytes xs) (hl:xs.length≤1000000000) (d:Nat):∀ (a:List Int) (k i:Nat),inP a→i + d=xs.length→d + 24≤k →
  qww.l1 k a xs (xs.length:Int) i=some ((dgAll (dgAll a (xs.drop i)) (List.replicate 8 0)).flatMap yb):=by
 induction d with
 | zero =>
  intro a k i h hi hk
  obtain⟨k,rfl⟩ : ∃ m,k=m + 1:=⟨k - 1,by omega⟩;simp only[qww.l1];rw[if_neg (by omega),List.drop_of_length_le (by omega)];exact specDig_l2 8 a k 0 h (by omega) (by omega)
 | succ d ih =>
  intro a k i h hi hk
  obtain⟨k,rfl⟩ : ∃ m,k=m + 1:=⟨k - 1,by omega⟩;have hlt:i < xs.length:=by omega
  have hb:=hx (rd xs i) (rd_mem hlt);simp only[qww.l1];rw[if_pos (by omega),if_pos (by omega),if_pos (by omega),wbyte hb,specMix_eq a h _ hb k (by omega)];simp only[Option.bind_some];rw[w64 (by omega) (by omega),show((i:Int) + 1)=((i + 1:Nat):Int) from rfl,ih _ k (i + 1) (inP_mix h _ hb.1) (by omega) (by omega),drop_rd hlt,dgAll_cons]
theorem specDig_l0 (xs ys:List Int) (hx:isBytes xs) (hl:xs.length≤1000000000) (hly:ys.length≤1000000000) (d:Nat):∀ (a:List Int) (k i:Nat),inP a→i + d=xs.length→d + 40≤k →
  qww.l0 k ys a xs (xs.length:Int) i=some ((dgAll (dgAll (dgAll a (xs.drop i)) (yb ys.length)) (List.replicate 8 0)).flatMap yb):=by
 induction d with
 | zero =>
  intro a k i h hi hk
  obtain⟨k,rfl⟩ : ∃ m,k=m + 1:=⟨k - 1,by omega⟩;simp only[qww.l0];rw[if_neg (by omega),List.drop_of_length_le (by omega),specBytes_eq _ (by omega) (by omega) k (by omega)];exact specDig_l1 (yb ys.length) (yb_bytes _) (by rw[yb_len];omega) 4 a k 0 h (by rw[yb_len]) (by omega)
 | succ d ih =>
  intro a k i h hi hk
  obtain⟨k,rfl⟩ : ∃ m,k=m + 1:=⟨k - 1,by omega⟩;have hlt:i < xs.length:=by omega
  have hb:=hx (rd xs i) (rd_mem hlt);simp only[qww.l0];rw[if_pos (by omega),if_pos (by omega),if_pos (by omega),wbyte hb,specMix_eq a h _ hb k (by omega)];simp only[Option.bind_some];rw[w64 (by omega) (by omega),show((i:Int) + 1)=((i + 1:Nat):Int) from rfl,ih _ k (i + 1) (inP_mix h _ hb.1) (by omega) (by omega),drop_rd hlt,dgAll_cons]
theorem specDigest_eq (l:List Int) (h:isBytes l) (hl:l.length≤1000000000) (k:Nat) (hk:l.length + 40≤k):qww.f k l=some (dg l):=by
 have:=specDig_l0 l l h hl hl l.length [11,22,33,44] k 0 inP_start (by omega) hk
 simpa [qww.f,dg,dgS] using this
theorem specDigest_ev (l:List Int) (h:isBytes l) (hl:l.length≤1000000000):Ev (fun k=>qww.f k l) (dg l):=⟨_,fun k hk=>specDigest_eq l h hl k hk⟩
theorem isBytes_flatMap_yb (a:List Int):isBytes (a.flatMap yb):=by
 intro x hx
 obtain⟨n,_,hn⟩:=List.mem_flatMap.1 hx;exact yb_bytes n x hn
theorem dg_bytes (l:List Int):isBytes (dg l):=isBytes_flatMap_yb _
theorem dgAll_len:∀ (l a:List Int),(dgAll a l).length=a.length
 | [],_=>rfl
 | x :: l,a=>by rw[dgAll_cons,dgAll_len l,dgMix,mix_len]
theorem dg_len (l:List Int):(dg l).length=16:=by
 have h:(dgS l).length=4:=by simp[dgS,dgAll_len]
 unfold dg
 match dgS l,h with
 | [b0,b1,b2,b3],_=>rfl
theorem isBytes_append {a b:List Int} (h:isBytes a) (h2:isBytes b):isBytes (a ++ b):=fun x hx=>(List.mem_append.1 hx).elim (h x) (h2 x)
theorem implDigest_eq (l:List Int) (h:isBytes l) (hl:l.length≤20000):vv.f l=some (dg l):=by
 unfold vv.f;rw[if_pos h,if_neg (by omega)]
theorem bytesOf_isBytes (s:ByteArray):isBytes (bytesOf s):=by
 intro x hx
 simp only[bytesOf,List.mem_map] at hx;obtain⟨b,_,rfl⟩:=hx;have:=b.toNat_lt
 omega
def macL (key data:List Int):List Int:=dg (dg key ++ dg data)
def numL (l:List Int):Int:=rd l 0 + 256 * rd l 1 + 65536 * rd l 2 + 16777216 * rd l 3
theorem or_nat (a b:Nat) (ha:a < 4611686018427387904) (hb:b < 4611686018427387904):Go.bits .or .i64 (a:Int) (b:Int)=((a ||| b:Nat):Int):=by
 have h1:(BitVec.ofInt 64 (a:Int)).toNat=a:=by
  rw[BitVec.ofInt_natCast,BitVec.toNat_ofNat];exact Nat.mod_eq_of_lt (by omega)
 have h2:(BitVec.ofInt 64 (b:Int)).toNat=b:=by
  rw[BitVec.ofInt_natCast,BitVec.toNat_ofNat];exact Nat.mod_eq_of_lt (by omega)
 have h3:a ||| b < 2 ^ 62:=Nat.or_lt_two_pow (by simpa using ha) (by simpa using hb)
 have e0:Go.bits .or .i64 (a:Int) (b:Int)=IntKind.i64.wrap ((((BitVec.ofInt 64 (a:Int)) ||| (BitVec.ofInt 64 (b:Int))).toNat:Nat):Int):=rfl;rw[e0,BitVec.toNat_or,h1,h2];exact IntWalk.i64_in _ (by omega)
theorem or_add (i:Nat) (a b:Int) (ha0 : 0≤a) (ha:a < (2 ^ i:Nat)) (hb0 : 0≤b) (hb:b < 4294967296) (hi:i≤24):Go.bits .or .i64 a (b * (2 ^ i:Nat))=a + b * (2 ^ i:Nat):=by
 obtain⟨a,rfl⟩ : ∃ n:Nat,a=n:=⟨a.toNat,by omega⟩;obtain⟨b,rfl⟩ : ∃ n:Nat,b=n:=⟨b.toNat,by omega⟩;have hp : 2 ^ i≤16777216:=Nat.le_trans (Nat.pow_le_pow_right (by omega) hi) (by decide)
 have hb':b * 2 ^ i < 4611686018427387904:=by
  have:b * 2 ^ i≤4294967296 * 16777216:=Nat.mul_le_mul (by omega) hp
  omega
 rw[← Int.natCast_mul,or_nat a (b * 2 ^ i) (by omega) hb',Nat.or_comm,Nat.mul_comm,← Nat.two_pow_add_eq_or_of_lt (show a < 2 ^ i by omega)];rw[Nat.mul_comm,Int.natCast_add,Int.natCast_mul]
 omega
theorem nrd_byte {l:List Int} (h:isBytes l) {i:Nat} (hi:i < l.length) : 0≤rd l i∧rd l i≤255:=by
 refine h _ ?_;rw[rd_nat hi];exact List.getElem_mem hi
theorem implNum_eq (l:List Int) (h:isBytes l) (hl : 4≤l.length):qqq.f l=some (numL l):=by
 have b0:=nrd_byte h (i:=0) (by omega);have b1:=nrd_byte h (i:=1) (by omega);have b2:=nrd_byte h (i:=2) (by omega);have b3:=nrd_byte h (i:=3) (by omega);simp only[Int.cast_ofNat_Int] at b0 b1 b2 b3;unfold qqq.f;rw[if_neg (by omega),if_pos (by omega),if_pos (by omega),if_pos (by omega),if_pos (by omega),w64 (n:=rd l 0) (by omega) (by omega),w64 (n:=rd l 1) (by omega) (by omega),w64 (n:=rd l 2) (by omega) (by omega),w64 (n:=rd l 3) (by omega) (by omega),w64 (n:=rd l 1 * 256) (by omega) (by omega),w64 (n:=rd l 2 * 65536) (by omega) (by omega),w64 (n:=rd l 3 * 16777216) (by omega) (by omega)];have e1:=or_add 8 (rd l 0) (rd l 1) (by omega) (by simp;omega) (by omega) (by omega) (by omega);have e2:=or_add 16 (rd l 0 + rd l 1 * 256) (rd l 2) (by omega) (by simp;omega) (by omega) (by omega) (by omega);have e3:=or_add 24 (rd l 0 + rd l 1 * 256 + rd l 2 * 65536) (rd l 3) (by omega) (by simp;omega) (by omega) (by omega) (by omega);simp only[show((2 ^ 8:Nat):Int)=256 from rfl,show((2 ^ 16:Nat):Int)=65536 from rfl,show((2 ^ 24:Nat):Int)=16777216 from rfl] at e1 e2 e3;rw[e1,e2,e3];simp only[numL,Option.some.injEq]
 omega
theorem specNum_eq (l:List Int) (h:isBytes l) (hl : 4≤l.length) (k:Nat) (hk : 5≤k):qxk.f k l=some (numL l):=by
 have b0:=nrd_byte h (i:=0) (by omega);have b1:=nrd_byte h (i:=1) (by omega);have b2:=nrd_byte h (i:=2) (by omega);have b3:=nrd_byte h (i:=3) (by omega);simp only[Int.cast_ofNat_Int] at b0 b1 b2 b3;obtain⟨k,rfl⟩ : ∃ m,k=m + 5:=⟨k - 5,by omega⟩;unfold qxk.f;rw[qxk.l0,if_pos (by omega),if_pos (by omega),if_pos (by omega),show wrap64 ((3:Int) - 1)=2 from(w64 (by omega) (by omega)).trans (by omega),w64 (n:=(0:Int) * 256) (by omega) (by omega),w64 (n:=rd l 3) (by omega) (by omega),w64 (n:=(0:Int) * 256 + rd l 3) (by omega) (by omega)];rw[qxk.l0,if_pos (by omega),if_pos (by omega),if_pos (by omega),show wrap64 ((2:Int) - 1)=1 from(w64 (by omega) (by omega)).trans (by omega),w64 (n:=rd l 2) (by omega) (by omega),w64 (n:=((0:Int) * 256 + rd l 3) * 256) (by omega) (by omega),w64 (n:=((0:Int) * 256 + rd l 3) * 256 + rd l 2) (by omega) (by omega)];rw[qxk.l0,if_pos (by omega),if_pos (by omega),if_pos (by omega),show wrap64 ((1:Int) - 1)=0 from(w64 (by omega) (by omega)).trans (by omega),w64 (n:=rd l 1) (by omega) (by omega),w64 (n:=(((0:Int) * 256 + rd l 3) * 256 + rd l 2) * 256) (by omega) (by omega),w64 (n:=(((0:Int) * 256 + rd l 3) * 256 + rd l 2) * 256 + rd l 1) (by omega) (by omega)];rw[qxk.l0,if_pos (by omega),if_pos (by omega),if_pos (by omega),show wrap64 ((0:Int) - 1) = -1 from(w64 (by omega) (by omega)).trans (by omega),w64 (n:=rd l 0) (by omega) (by omega),w64 (n:=((((0:Int) * 256 + rd l 3) * 256 + rd l 2) * 256 + rd l 1) * 256) (by omega) (by omega),w64 (n:=((((0:Int) * 256 + rd l 3) * 256 + rd l 2) * 256 + rd l 1) * 256 + rd l 0) (by omega) (by omega)];rw[qxk.l0,if_neg (by omega)];simp only[numL,Option.some.injEq]
 omega
theorem numL_range (l:List Int) (h:isBytes l) (hl : 4≤l.length) : 0≤numL l∧numL l≤4294967295:=by
 have b0:=nrd_byte h (i:=0) (by omega);have b1:=nrd_byte h (i:=1) (by omega);have b2:=nrd_byte h (i:=2) (by omega);have b3:=nrd_byte h (i:=3) (by omega);simp only[Int.cast_ofNat_Int] at b0 b1 b2 b3;unfold numL
 omega
theorem Ev.up2 {α:Type} {g:Nat→Option α} {r : α} (h:Ev (fun k=>g (k + 1)) r):Ev g r:=by
 obtain⟨n,hn⟩:=h;refine⟨n + 1,fun k hk=>?_⟩;obtain⟨k,rfl⟩ : ∃ m,k=m + 1:=⟨k - 1,by omega⟩;exact hn k (by omega)
theorem macTwo_ev (a b:List Int) (ha:isBytes a) (hb:isBytes b) (la:a.length≤100000000) (lb:b.length≤100000000):Ev (fun k=>zqq.f k a b) (dg (a ++ b)):=by
 have hab:=specDigest_ev (a ++ b) (isBytes_append ha hb) (by rw[List.length_append];omega);simp only[zqq.f,List.length_nil,if_pos (show 0 + a.length < 140737488355328 by omega),List.nil_append,Option.bind_some,if_pos (show a.length + b.length < 140737488355328 by omega)];exact Ev.bind hab (Ev.now _)
theorem macS_ev (a b:List Int) (ha:isBytes a) (hb:isBytes b) (la:a.length≤100000000) (lb:b.length≤100000000):Ev (fun k=>qxz.f k a b) (macL a b):=by
 simp only[qxz.f];refine Ev.bind (specDigest_ev a ha (by omega)) ?_;refine Ev.bind (specDigest_ev b hb (by omega)) ?_;exact Ev.bind (macTwo_ev _ _ (dg_bytes a) (dg_bytes b) (by rw[dg_len];omega) (by rw[dg_len];omega)) (Ev.now _)
theorem macI_ev (a b:List Int) (ha:isBytes a) (hb:isBytes b) (la:a.length≤20000) (lb:b.length≤20000):Ev (fun k=>wj.f k a b) (macL a b):=by
 refine Ev.up2 ?_;simp only[wj.f,if_neg (show ¬ ((a.length:Int) > 20000) by omega),decide_eq_false (show ¬ ((b.length:Int) > 20000) by omega),wj.j0,Bool.false_eq_true,if_false,implDigest_eq a ha la,implDigest_eq b hb lb,Option.bind_some,if_pos (show(dg a).length + (dg b).length < 140737488355328 by rw[dg_len,dg_len];omega),implDigest_eq _ (isBytes_append (dg_bytes a) (dg_bytes b)) (show(dg a ++ dg b).length≤20000 by rw[List.length_append,dg_len,dg_len];omega)];exact Ev.now _
theorem bytesS_eq (s:ByteArray) (h:s.size≤9223372036854775807):bytesOfS.f s=some (bytesOf s):=by unfold bytesOfS.f;rw[if_pos h]
theorem Ev.up1 {α:Type} {g:Nat→Option α} {r : α} (h:Ev (fun k=>g (k + 1)) r):Ev g r:=by
 obtain⟨n,hn⟩:=h;refine⟨n + 1,fun k hk=>?_⟩;obtain⟨k,rfl⟩ : ∃ m,k=m + 1:=⟨k - 1,by omega⟩;exact hn k (by omega)
def chalL (r:Int) (d:List Int):Int:=numL (dg (yb r ++ dg d)) % 1073741789
theorem chalL_range (r:Int) (d:List Int) : 0≤chalL r d∧chalL r d < 1073741789:=⟨Int.emod_nonneg _ (by omega),Int.emod_lt_of_pos _ (by omega)⟩
theorem implChal_eq (r:Int) (d:List Int) (hd:isBytes d) (hl:d.length≤20000):xj.f r d=some (chalL r d):=by
 have y1:xz.f r=some (yb r):=rfl;have h1:=dg_len d;have h2:=dg_len (yb r ++ dg d);have h3:=numL_range (dg (yb r ++ dg d)) (dg_bytes _) (by omega);unfold xj.f;rw[y1,Option.bind_some,implDigest_eq d hd hl,Option.bind_some,if_pos (by rw[h1,yb_len];omega),implDigest_eq _ (isBytes_append (yb_bytes _) (dg_bytes _)) (by rw[List.length_append,h1,yb_len];omega),Option.bind_some,implNum_eq _ (dg_bytes _) (by omega),Option.bind_some,Int.tmod_eq_emod_of_nonneg h3.1]
 rfl
theorem specChal_ev (r:Int) (d:List Int) (hr0 : 0≤r) (hr:r≤9223372036854775807) (hd:isBytes d) (hl:d.length≤20000):Ev (fun k=>qwx.f k r d) (chalL r d):=by
 have h1:=dg_len d;have h2:=dg_len (yb r ++ dg d);have h3:=numL_range (dg (yb r ++ dg d)) (dg_bytes _) (by omega);simp only[qwx.f];refine Ev.bind ⟨5,fun k hk=>specBytes_eq r hr0 hr k hk⟩ ?_;simp only[if_pos (show([]:List Int).length + (yb r).length < 140737488355328 by rw[yb_len];simp),List.nil_append,Option.bind_some];refine Ev.bind (specDigest_ev d hd (by omega)) ?_;simp only[if_pos (show(yb r).length + (dg d).length < 140737488355328 by rw[yb_len,h1];omega)];refine Ev.bind (specDigest_ev _ (isBytes_append (yb_bytes _) (dg_bytes _)) (by rw[List.length_append,h1,yb_len];omega)) ?_;refine Ev.bind ⟨5,fun k hk=>specNum_eq _ (dg_bytes _) (by omega) k hk⟩ ?_;simp only[Int.tmod_eq_emod_of_nonneg h3.1];exact Ev.now _
theorem ypow_at (b e:Int) (h0 : 0≤b) (h1:b < 2147483579) (he0 : 0≤e) (he:e < 2199023255552) (k:Nat) (hk : 50≤k):qqz.f k b e 2147483579=some (pwm b e.toNat):=by
 have:=ypow_eq b e.toNat h0 h1 (by omega) k hk
 rwa [Int.toNat_of_nonneg he0] at this
theorem l2Power_at (b e:Int) (h0 : 0≤b) (h1:b < 2147483579) (he0 : 0≤e) (he:e < 2199023255552) (k:Nat) (hk : 50≤k):qxv.f k b e 2147483579=some (pwm b e.toNat):=by
 have:=l2Power_eq b e.toNat h0 h1 (by omega) k hk
 rwa [Int.toNat_of_nonneg he0] at this
theorem macL_bytes (a b:List Int):isBytes (macL a b):=dg_bytes _
theorem macL_len (a b:List Int):(macL a b).length=16:=dg_len _
def signN (x:Int) (d:List Int):Int:=1 + numL (macL (yb x) d) % 1073741788
theorem signN_range (x:Int) (d:List Int) : 1≤signN x d∧signN x d < 1073741789:=by
 have h0:=Int.emod_nonneg (numL (macL (yb x) d)) (show(1073741788:Int)≠0 by omega);have h1:=Int.emod_lt_of_pos (numL (macL (yb x) d)) (show(0:Int) < 1073741788 by omega);unfold signN
 omega
def signL (x:Int) (d:List Int):Int × Int:=(pwm 4 (signN x d).toNat,(signN x d + chalL (pwm 4 (signN x d).toNat) d * x) % 1073741789)
theorem chal_mul {e x:Int} (h0 : 0≤e) (h1:e < 1073741789) (h2 : 0≤x) (h3:x < 1073741789) : 0≤e * x∧e * x≤1152921504606846976:=by
 refine⟨Int.mul_nonneg h0 h2,?_⟩;have:=Int.mul_le_mul (show e≤1073741788 by omega) (show x≤1073741788 by omega) h2 (by omega)
 omega
theorem num_part (x:Int) (d:List Int):wrap64 (1 + Int.tmod (numL (macL (yb x) d)) 1073741788)=signN x d:=by
 have h3:=numL_range (macL (yb x) d) (macL_bytes _ _) (by rw[macL_len];omega);have hs:=signN_range x d;have e : 1 + Int.tmod (numL (macL (yb x) d)) 1073741788=signN x d:=by rw[Int.tmod_eq_emod_of_nonneg h3.1];rfl
 rw[e,w64 (by omega) (by omega)]
theorem sig_part {x n e:Int} (hx0 : 0≤x) (hx1:x < 1073741789) (hn0 : 1≤n) (hn1:n < 1073741789) (h0 : 0≤e) (h1:e < 1073741789):Int.tmod (wrap64 (n + wrap64 (e * x))) 1073741789=(n + e * x) % 1073741789:=by
 have h:=chal_mul h0 h1 hx0 hx1;rw[w64 (n:=e * x) (by omega) (by omega),w64 (by omega) (by omega),Int.tmod_eq_emod_of_nonneg (by omega)]
theorem specSign_ev (x:Int) (d:List Int) (hx0 : 1≤x) (hx1:x < 1073741789) (hd:isBytes d) (hl:d.length≤20000):Ev (fun k=>qxx.f k x d) (signL x d):=by
 have hs:=signN_range x d;have hr:=pwm_range 4 (signN x d).toNat;have hc:=chalL_range (pwm 4 (signN x d).toNat) d;simp only[qxx.f];refine Ev.bind ⟨5,fun k hk=>specBytes_eq x (by omega) (by omega) k hk⟩ ?_;refine Ev.bind (macS_ev _ d (yb_bytes x) hd (by rw[yb_len];omega) (by omega)) ?_;refine Ev.bind ⟨5,fun k hk=>specNum_eq _ (macL_bytes _ _) (by rw[macL_len];omega) k hk⟩ ?_;simp only[num_part];refine Ev.bind ⟨50,fun k hk=>l2Power_at 4 (signN x d) (by omega) (by omega) (by omega) (by omega) k hk⟩ ?_;refine Ev.bind (specChal_ev _ d hr.1 (by omega) hd hl) ?_;simp only[sig_part (show 0≤x by omega) hx1 hs.1 hs.2 hc.1 hc.2];exact Ev.now _
theorem implSign_ev (x:Int) (d:List Int) (hd:isBytes d) (hl:d.length≤20000):Ev (fun k=>wk.f k x d) (if 1≤x∧x < 1073741789 then signL x d else(0,0)):=by
 refine Ev.up1 ?_
 by_cases hx : 1≤x∧x < 1073741789
 ·have hx0:=hx.1;have hx1:=hx.2;have hs:=signN_range x d;have hr:=pwm_range 4 (signN x d).toNat;have hc:=chalL_range (pwm 4 (signN x d).toNat) d;have y1:xz.f x=some (yb x):=rfl;have n1:=implNum_eq (macL (yb x) d) (macL_bytes _ _) (by rw[macL_len];omega);have c1:=implChal_eq (pwm 4 (signN x d).toNat) d hd hl;simp only[if_pos hx,wk.f,qqw.f,if_pos (show x ≥ 1 by omega),decide_eq_true hx1,Option.bind_some,if_true,decide_eq_false (show ¬ ((d.length:Int) > 20000) by omega),wk.j0,Bool.false_eq_true,if_false,y1];refine Ev.bind (macI_ev _ d (yb_bytes x) hd (by rw[yb_len];omega) hl) ?_;simp only[n1,Option.bind_some,num_part];refine Ev.bind ⟨50,fun k hk=>ypow_at 4 (signN x d) (by omega) (by omega) (by omega) (by omega) k hk⟩ ?_;simp only[c1,Option.bind_some,sig_part (show 0≤x by omega) hx1 hs.1 hs.2 hc.1 hc.2];exact Ev.now _
 ·simp only[if_neg hx,wk.f,qqw.f]
  by_cases h1:x ≥ 1
  ·simp only[if_pos h1,Option.bind_some,decide_eq_false (show ¬ x < 1073741789 by omega),Bool.false_eq_true,if_false,wk.j0,if_true];exact Ev.now _
  ·simp only[if_neg h1,Option.bind_some,Bool.false_eq_true,if_false,wk.j0,if_true];exact Ev.now _
def letC (c:Int):Bool:=decide (97≤c∧c≤122∨65≤c∧c≤90)
def digC (c:Int):Bool:=decide (48≤c∧c≤57)
theorem sletter_eq (c:Int):qvk.f c=some (letC c):=by
 unfold qvk.f letC
 split
 ·split
  ·congr 1;symm;rw[decide_eq_true_eq];omega
  ·split
   ·congr 1;rw[decide_eq_decide];omega
   ·congr 1;symm;rw[decide_eq_false_iff_not];omega
 ·split
  ·congr 1;rw[decide_eq_decide];omega
  ·congr 1;symm;rw[decide_eq_false_iff_not];omega
theorem sdigit_eq (c:Int):qvj.f c=some (digC c):=by
 unfold qvj.f digC
 split
 ·congr 1;rw[decide_eq_decide];omega
 ·congr 1;symm;rw[decide_eq_false_iff_not];omega
theorem iletter_eq (c:Int):xx.f c=some (letC c):=by
 unfold xx.f letC
 split
 ·split
  ·congr 1;symm;rw[decide_eq_true_eq];omega
  ·split
   ·congr 1;rw[decide_eq_decide];omega
   ·congr 1;symm;rw[decide_eq_false_iff_not];omega
 ·split
  ·congr 1;rw[decide_eq_decide];omega
  ·congr 1;symm;rw[decide_eq_false_iff_not];omega
theorem idigit_eq (c:Int):xk.f c=some (digC c):=by
 unfold xk.f digC
 split
 ·congr 1;rw[decide_eq_decide];omega
 ·congr 1;symm;rw[decide_eq_false_iff_not];omega
def idC (c:Int):Bool:=if letC c=true then true else if digC c=true then true else if c=95 then true else if c=45 then true else if c=46 then true else false
def idN (s:ByteArray):Nat→Bool
 | 0=>true
 | d + 1=>if idC (bt s ((s.size - (d + 1):Nat):Int))=true then idN s d else false
theorem l7Id_l0 (s:ByteArray) (hs:s.size≤9223372036854775807) (d:Nat):∀ (k i:Nat),s.size - i=d→i≤s.size→d < k→zqj.l0 k s i=some (if idN s d=true then(if (s.size:Int) ≥ 1 then decide ((s.size:Int)≤40) else false) else false):=by
 induction d with
 | zero =>
  intro k i hd hi hk
  obtain⟨k,rfl⟩ : ∃ m,k=m + 1:=⟨k - 1,by omega⟩;simp only[zqj.l0,idN,if_true];rw[if_neg (by omega)]
  split <;> rfl
 | succ d ih =>
  intro k i hd hi hk
  obtain⟨k,rfl⟩ : ∃ m,k=m + 1:=⟨k - 1,by omega⟩;have e0:s.size - (d + 1)=i:=by omega
  simp only[zqj.l0,idN,e0,sletter_eq,sdigit_eq,Option.bind_some];rw[if_pos (by omega),if_pos (by omega),w64 (by omega) (by omega),show((i:Int) + 1)=((i + 1:Nat):Int) from rfl,ih k (i + 1) (by omega) (by omega) (by omega)];unfold idC
  split
  ·simp only[if_true]
  ·split
   ·simp only[if_true]
   ·split
    ·simp only[if_true]
    ·split
     ·simp only[if_true]
     ·split <;> simp only[if_true,Bool.false_eq_true,if_false]
theorem ygoodId_l0 (s:ByteArray) (hs:s.size≤9223372036854775807) (d:Nat):∀ (k i:Nat),s.size - i=d→i≤s.size→d < k→xv.l0 k s (s.size:Int) i=some (idN s d):=by
 induction d with
 | zero =>
  intro k i hd hi hk
  obtain⟨k,rfl⟩ : ∃ m,k=m + 1:=⟨k - 1,by omega⟩;simp only[xv.l0];rw[if_neg (by omega)]
  rfl
 | succ d ih =>
  intro k i hd hi hk
  obtain⟨k,rfl⟩ : ∃ m,k=m + 1:=⟨k - 1,by omega⟩;have e0:s.size - (d + 1)=i:=by omega
  simp only[xv.l0,idN,e0,qqx.f,iletter_eq,idigit_eq,Option.bind_some];rw[if_pos (by omega),if_pos (by omega),if_pos (by omega),w64 (by omega) (by omega),show((i:Int) + 1)=((i + 1:Nat):Int) from rfl,ih k (i + 1) (by omega) (by omega) (by omega)];unfold idC
  by_cases h1:letC (bt s (i:Int))=true
  ·simp only[h1,if_true,Option.bind_some]
  ·simp only[h1,Bool.false_eq_true,if_false]
   by_cases h2:digC (bt s (i:Int))=true
   ·simp only[h2,if_true,Option.bind_some]
   ·simp only[h2,Bool.false_eq_true,if_false,Option.bind_some,beq_iff_eq]
    by_cases h3:bt s (i:Int)=95
    ·simp only[h3,if_true]
    ·simp only[h3,if_false]
     by_cases h4:bt s (i:Int)=45
     ·simp only[h4,if_true]
     ·simp only[h4,if_false]
      by_cases h5:bt s (i:Int)=46
      ·simp only[h5,if_true]
      ·simp only[h5,if_false,Bool.false_eq_true]
def goodId (s:ByteArray):Bool:=idN s s.size && (decide (1≤s.size) && decide (s.size≤40))
theorem specId_ev (s:ByteArray) (hs:s.size≤9223372036854775807):Ev (fun k=>zqj.f k s) (goodId s):=by
 refine⟨s.size + 1,fun k hk=>?_⟩
 show zqj.f k s=_
 unfold zqj.f;have e:=l7Id_l0 s hs s.size k 0 (by omega) (by omega) (by omega);rw[show(0:Int)=((0:Nat):Int) from rfl,e]
 congr 1
 unfold goodId
 cases idN s s.size with
 | false=>rfl
 | true =>
  simp only[if_true,Bool.true_and]
  by_cases h : 1≤s.size
  ·rw[if_pos (by omega),decide_eq_true h,Bool.true_and,decide_eq_decide];omega
  ·rw[if_neg (by omega),decide_eq_false h,Bool.false_and]
theorem implId_ev (s:ByteArray) (hs:s.size≤9223372036854775807):Ev (fun k=>xv.f k s) (goodId s):=by
 refine⟨s.size + 2,fun k hk=>?_⟩
 show xv.f k s=_
 obtain⟨k,rfl⟩ : ∃ m,k=m + 1:=⟨k - 1,by omega⟩;unfold xv.f goodId
 by_cases h1 : 1≤s.size
 ·by_cases h2:s.size≤40
  ·rw[if_neg (by omega),decide_eq_false (by omega),decide_eq_true h1,decide_eq_true h2];simp only[xv.j0,Bool.false_eq_true,if_false,Bool.and_true];exact ygoodId_l0 s hs s.size k 0 (by omega) (by omega) (by omega)
  ·rw[if_neg (by omega),decide_eq_true (by omega),decide_eq_false h2];simp only[xv.j0,if_true,Bool.and_false]
 ·rw[if_pos (by omega),decide_eq_false h1];simp only[xv.j0,if_true,Bool.false_and,Bool.and_false]
def tokHead (id v:ByteArray):ByteArray:=(((⟨#[118,49,126]⟩ : ByteArray) ++ id) ++ (⟨#[126]⟩ : ByteArray)) ++ armB (bytesOf v)
def tokB (x:Int) (id v:ByteArray):ByteArray:=(tokHead id v ++ (⟨#[126]⟩ : ByteArray)) ++ armB (yb (signL x (bytesOf (tokHead id v))).1 ++ yb (signL x (bytesOf (tokHead id v))).2)
theorem armZ (d:List Int):(armB d).size=armN d:=by
 unfold armB;rw[show(⟨(armU d (armN d)).toArray⟩ : ByteArray).size=(armU d (armN d)).length from List.size_toArray,armU_len]
theorem armZ_le (d:List Int) (n:Nat) (h:d.length≤n):(armB d).size≤2 * n + 1:=by
 rw[armZ];unfold armN
 omega
theorem head_le (id v:ByteArray) (hi:id.size≤40) (hv:v.size≤4000):(tokHead id v).size≤8100∧(armB (bytesOf v)).size≤8001:=by
 have h:=armZ_le (bytesOf v) 4000 (by rw[bytesOf_length];exact hv);refine⟨?_,h⟩;unfold tokHead;rw[ByteArray.size_append,ByteArray.size_append,ByteArray.size_append,show(⟨#[118,49,126]⟩ : ByteArray).size=3 from rfl,show(⟨#[126]⟩ : ByteArray).size=1 from rfl]
 omega
theorem sig_range (x:Int) (d:List Int) : 0≤(signL x d).1∧(signL x d).1≤9223372036854775807∧0≤(signL x d).2∧(signL x d).2≤9223372036854775807:=by
 have h1:=pwm_range 4 (signN x d).toNat;have h2:=Int.emod_nonneg (signN x d + chalL (pwm 4 (signN x d).toNat) d * x) (show(1073741789:Int)≠0 by omega);have h3:=Int.emod_lt_of_pos (signN x d + chalL (pwm 4 (signN x d).toNat) d * x) (show(0:Int) < 1073741789 by omega);refine⟨h1.1,?_,h2,?_⟩
 ·show pwm 4 (signN x d).toNat≤_
  omega
 ·show(signN x d + chalL (pwm 4 (signN x d).toNat) d * x) % 1073741789≤_
  omega
theorem specTok_j0 (b:Bool) (x:Int) (id:ByteArray) (kk n:Int) (t ty:ByteArray) (l:List S30) (ns:List ByteArray) (v:ByteArray) (hb:b=false→1≤x∧x < 1073741789∧id.size≤40∧v.size≤4000∧Ev (fun q=>qkv.f q 3 kk n t ty l ns) v):Ev (fun q=>qkk.j0 q x id b 3 kk n t ty l ns) (if b=true then⟨#[]⟩ else tokB x id v):=by
 refine Ev.upW ?_;simp only[qkk.j0]
 cases b
 case true=>simp only[if_true];exact Ev.now _
 obtain⟨hx0,hx1,hid,hv,hev⟩:=hb rfl;have z3:(⟨#[118,49,126]⟩ : ByteArray).size=3:=rfl;have z1:(⟨#[126]⟩ : ByteArray).size=1:=rfl;obtain⟨hh1,hh2⟩:=head_le id v hid hv;have hsr:=sig_range x (bytesOf (tokHead id v));have hbl:(bytesOf (tokHead id v)).length≤20000:=by rw[bytesOf_length];omega
 simp only[Bool.false_eq_true,if_false];refine Ev.ifP (by omega) ?_;refine Ev.ifP (by rw[ByteArray.size_append];omega) ?_;refine Ev.bind hev ?_;simp only[bytesS_eq v (by omega),Option.bind_some];refine Ev.bind (specArmor_ev (bytesOf v) (bytesOf_isBytes v) (by rw[bytesOf_length];omega)) ?_;refine Ev.ifP (by rw[ByteArray.size_append,ByteArray.size_append];omega) ?_
 show Ev (fun q=>(bytesOfS.f (tokHead id v)).bind _) _
 simp only[bytesS_eq (tokHead id v) (by omega),Option.bind_some];refine Ev.bind (specSign_ev x (bytesOf (tokHead id v)) hx0 hx1 (bytesOf_isBytes _) hbl) ?_;refine Ev.ifP (show(tokHead id v).size + 1≤_ by omega) ?_;refine Ev.bind ⟨5,fun k hk=>specBytes_eq _ hsr.1 hsr.2.1 k hk⟩ ?_;refine Ev.bind ⟨5,fun k hk=>specBytes_eq _ hsr.2.2.1 hsr.2.2.2 k hk⟩ ?_;refine Ev.ifP (by rw[yb_len,yb_len];omega) ?_;refine Ev.bind (specArmor_ev _ (isBytes_append (yb_bytes _) (yb_bytes _)) (by rw[List.length_append,yb_len,yb_len];omega)) ?_;have hz:=armZ_le (yb (signL x (bytesOf (tokHead id v))).1 ++ yb (signL x (bytesOf (tokHead id v))).2) 8 (by rw[List.length_append,yb_len,yb_len];omega);refine Ev.ifP (show(tokHead id v ++ (⟨#[126]⟩ : ByteArray)).size + _≤_ by rw[ByteArray.size_append];omega) ?_;exact Ev.now _
theorem implTok_j0 (b:Bool) (x:Int) (id:ByteArray) (kk n:Int) (t ty:ByteArray) (l:List S30) (ns:List ByteArray) (v:ByteArray) (hb:b=false→1≤x∧x < 1073741789∧id.size≤40∧v.size≤4000∧Ev (fun q=>ww.f q 3 kk n t ty l ns) v):Ev (fun q=>wv.j0 q x id b 3 kk n t ty l ns) (if b=true then⟨#[]⟩ else tokB x id v):=by
 refine Ev.upW ?_;simp only[wv.j0]
 cases b
 case true=>simp only[if_true];exact Ev.now _
 obtain⟨hx0,hx1,hid,hv,hev⟩:=hb rfl;have z3:(⟨#[118,49,126]⟩ : ByteArray).size=3:=rfl;have z1:(⟨#[126]⟩ : ByteArray).size=1:=rfl;obtain⟨hh1,hh2⟩:=head_le id v hid hv;have hsr:=sig_range x (bytesOf (tokHead id v));have hbl:(bytesOf (tokHead id v)).length≤20000:=by rw[bytesOf_length];omega
 have y1:∀ q:Int,xz.f q=some (yb q):=fun _=>rfl
 have a1:vz.f (bytesOf v)=some (armB (bytesOf v)):=by
  unfold vz.f;rw[if_pos (show isBytes (bytesOf v) from bytesOf_isBytes v),if_neg (by rw[bytesOf_length];omega)]
 have a2:vz.f (yb (signL x (bytesOf (tokHead id v))).1 ++ yb (signL x (bytesOf (tokHead id v))).2)=some (armB (yb (signL x (bytesOf (tokHead id v))).1 ++ yb (signL x (bytesOf (tokHead id v))).2)):=by
  unfold vz.f;rw[if_pos (isBytes_append (yb_bytes _) (yb_bytes _)),if_neg (by rw[List.length_append,yb_len,yb_len];omega)]
 simp only[Bool.false_eq_true,if_false];refine Ev.ifP (by omega) ?_;refine Ev.ifP (by rw[ByteArray.size_append];omega) ?_;refine Ev.bind hev ?_;simp only[bytesS_eq v (by omega),Option.bind_some,a1];refine Ev.ifP (by rw[ByteArray.size_append,ByteArray.size_append];omega) ?_
 show Ev (fun q=>(bytesOfS.f (tokHead id v)).bind _) _
 simp only[bytesS_eq (tokHead id v) (by omega),Option.bind_some];have hs:=implSign_ev x (bytesOf (tokHead id v)) (bytesOf_isBytes _) hbl;rw[if_pos ⟨hx0,hx1⟩] at hs;refine Ev.bind hs ?_;refine Ev.ifP (show(tokHead id v).size + 1≤_ by omega) ?_;simp only[y1,Option.bind_some];refine Ev.ifP (by rw[yb_len,yb_len];omega) ?_;simp only[a2,Option.bind_some];have hz:=armZ_le (yb (signL x (bytesOf (tokHead id v))).1 ++ yb (signL x (bytesOf (tokHead id v))).2) 8 (by rw[List.length_append,yb_len,yb_len];omega);refine Ev.ifP (show(tokHead id v ++ (⟨#[126]⟩ : ByteArray)).size + _≤_ by rw[ByteArray.size_append];omega) ?_;exact Ev.now _
def toAt (e:S23):S30:=⟨e.f0,e.f1,e.f2,e.f3⟩
theorem rdAL_nat {l:List S23} {i:Nat} (h:i < l.length):kv l (i:Int)=l[i]:=by simp[kv,List.getD_eq_getElem?_getD,List.getElem?_eq_getElem h]
theorem rdAI_nat {l:List S30} {i:Nat} (h:i < l.length):kw l (i:Int)=l[i]:=by simp[kw,List.getD_eq_getElem?_getD,List.getElem?_eq_getElem h]
theorem szAtom_eq (k m:Int) (t ty:ByteArray) (left:Int) (ht:okS t) (hty:okS ty) (h0 : 0≤left) (h1:left≤1048576):∃ r:Int,qzx.f k m t ty left=some r∧r≤1048576:=by
 unfold okS at ht hty;unfold qzx.f;rw[w64 (by omega) (by omega)]
 by_cases h:left - (t.size:Int) < 0
 ·exact⟨_,if_pos h,by omega⟩
 rw[if_neg h,w64 (by omega) (by omega)]
 by_cases h2:left - (t.size:Int) - (ty.size:Int) < 0
 ·exact⟨_,if_pos h2,by omega⟩
 ·exact⟨_,if_neg h2,by omega⟩
def okLA (e:S23):Prop:=okS e.f2∧okS e.f3
theorem szAtomS_ev (l:List S23) (hok:∀ e ∈ l,okLA e) (hmax:l.length≤9223372036854775807) (left:Int) (h0 : 0≤left) (h1:left≤1048576):∃ r:Int,Ev (fun k=>qjq.f k l left) r∧r≤1048576∧(¬ r < 0→l.length≤1048576∧∀ e ∈ l,True) :=
 rows_szf l okLA (fun _=>True) (fun k x=>qjq.f k l x) (fun k x i=>qjq.l0 k l x i) (fun _ e x=>qzx.f e.f0 e.f1 e.f2 e.f3 x) left h0 h1 hmax (fun _=>rfl)
  (fun k x=>by simp only[qjq.l0,if_neg (Int.lt_irrefl _)])
  (fun hl k i h x=>by simp only[qjq.l0,if_pos (show(i:Int) < (l.length:Int) by omega),if_pos (Int.natCast_nonneg i),rdAL_nat h,wrap_succ h (by omega)])
  hok (fun e he x hx0 hx1=>by obtain⟨r,e1,e2⟩:=szAtom_eq e.f0 e.f1 e.f2 e.f3 x he.1 he.2 hx0 hx1;exact⟨r,⟨0,fun _ _=>e1⟩,e2,fun _=>trivial⟩)
theorem toAtomS_ev (l:List S23) (hlen:l.length≤1048576):Ev (fun k=>qjv.f k l) (l.map toAt):=by
 simp only[qjv.f,if_pos (Int.natCast_nonneg l.length),Int.toNat_natCast,if_pos (show l.length≤5864062014805 by omega)]
 have:=rows_to l z30 (fun k x i=>qjv.l0 k l x i) (fun _ e=>qjk.f e.f0 e.f1 e.f2 e.f3) (fun t=>(⟨t.1,t.2.1,t.2.2.1,t.2.2.2⟩ : S30)) toAt hlen
  (fun k x=>by simp only[qjv.l0,if_neg (Int.lt_irrefl _)])
  (fun k i h x hx=>by simp only[qjv.l0,if_pos (show(i:Int) < (l.length:Int) by omega),if_pos (Int.natCast_nonneg i),rdAL_nat h,wrap_succ h (by omega),if_pos (show(i:Int) < (x.length:Int) by omega),Int.toNat_natCast])
  (fun e _=>⟨_,⟨0,fun _ _=>rfl⟩,rfl⟩) l.length 0 (by omega)
 rw[List.take_zero,jq2,List.nil_append] at this;exact this
theorem eqAtom_refl (a b:Int) (c d:ByteArray):qzj.f a b c d a b c d=some true:=by unfold qzj.f;simp only[if_true]
theorem eqAtomS_refl (l:List S30) (hlen:l.length≤1048576):Ev (fun k=>qzk.f k l l) true:=by
 simp only[qzk.f,if_true]
 exact rows_eq l (fun k i=>qzk.l0 k l l i) (fun _ e=>qzj.f e.f0 e.f1 e.f2 e.f3 e.f0 e.f1 e.f2 e.f3) hlen
  (fun k=>by simp only[qzk.l0,if_neg (Int.lt_irrefl _)])
  (fun k i h=>by simp only[qzk.l0,if_pos (show(i:Int) < (l.length:Int) by omega),if_pos (Int.natCast_nonneg i),rdAI_nat h,wrap_succ h (by omega)])
  (fun e _=>⟨0,fun _ _=>eqAtom_refl _ _ _ _⟩) l.length 0 (by omega)
end Go.Proofs.YtkcdefnpbnbaeaaGreatDoor.Pr
namespace Go.Proofs.YtkcdefnpbnbaeaaGreatDoor.Pure
open Go.RowKit Go.Proofs.YtkcdefnpbnbaeaaGreatDoor.Read Go.Proofs.YtkcdefnpbnbaeaaGreatDoorW.PrintWords Go.Proofs.YtkcdefnpbnbaeaaGreatDoor.Pr
set_option linter.unusedVariables false
def secOk (x:Int):Bool:=if x ≥ 1 then decide (x < 1073741789) else false
theorem sec_parts {x:Int} (h:secOk x=true) : 1≤x∧x < 1073741789:=by
 unfold secOk at h
 by_cases h1:x ≥ 1
 ·rw[if_pos h1,decide_eq_true_eq] at h;exact⟨h1,h⟩
 ·rw[if_neg h1] at h;cases h
theorem sSec (x:Int):qxw.f x=some (secOk x):=by unfold qxw.f secOk;split <;> rfl
theorem iSec (x:Int):qqw.f x=some (secOk x):=by unfold qqw.f secOk;split <;> rfl
theorem id_le {id:ByteArray} (h:goodId id=true):id.size≤40:=by
 unfold goodId at h;simp only[Bool.and_eq_true,decide_eq_true_eq] at h;exact h.2.2
theorem specNo (x:Int) (id:ByteArray) (kd kk n:Int) (t ty:ByteArray) (l:List S30) (ns:List ByteArray):Ev (fun q=>qkk.j0 q x id true kd kk n t ty l ns) ⟨#[]⟩:=by
 refine Ev.upW ?_;simp only[qkk.j0,if_true];exact Ev.now _
theorem implNo (x:Int) (id:ByteArray) (kd kk n:Int) (t ty:ByteArray) (l:List S30) (ns:List ByteArray):Ev (fun q=>wv.j0 q x id true kd kk n t ty l ns) ⟨#[]⟩:=by
 refine Ev.upW ?_;simp only[wv.j0,if_true];exact Ev.now _
def tokS (x:Int) (id:ByteArray) (kd kk n:Int) (t ty:ByteArray) (l:List S30) (ns:List ByteArray):ByteArray :=
 if secOk x=true then(if goodId id=true then(if kd=3 then(if recOk kk n t ty l ns=true then(if (recB l ns).size≤4000 then tokB x id (recB l ns) else⟨#[]⟩) else⟨#[]⟩) else⟨#[]⟩) else⟨#[]⟩) else⟨#[]⟩
theorem specTok_ev (x:Int) (id:ByteArray) (kd kk n:Int) (t ty:ByteArray) (l:List S30) (ns:List ByteArray) (hi:okS id) (h:∀ y ∈ l,okAt y) (hl:l.length≤1048576) (hn:okTexts ns):Ev (fun q=>qkk.f q x id kd kk n t ty l ns) (tokS x id kd kk n t ty l ns):=by
 simp only[qkk.f,sSec,Option.bind_some];unfold tokS
 cases hs:secOk x
 case false=>simp only[Bool.false_eq_true,if_false];exact specNo _ _ _ _ _ _ _ _ _
 simp only[if_true];refine Ev.bind (specId_ev id hi) ?_
 cases hg:goodId id
 case false=>simp only[Bool.false_eq_true,if_false];exact specNo _ _ _ _ _ _ _ _ _
 simp only[if_true]
 by_cases hk:kd=3
 case neg =>
  simp only[qkw.f,zqz.f,if_neg hk,Option.bind_some,Bool.false_eq_true,if_false,Bool.not_false];exact specNo _ _ _ _ _ _ _ _ _
 subst hk;simp only[qkw.f,zqz.f,if_true,Option.bind_assoc,Option.bind_some];refine Ev.bind (specRec_ev kk n t ty l ns h hl hn) ?_;have hv:=specVal_ev kk n t ty l ns h hl hn
 cases hr:recOk kk n t ty l ns
 case false =>
  simp only[Bool.false_eq_true,if_false,Option.bind_some,Bool.not_false];exact specNo _ _ _ _ _ _ _ _ _
 rw[if_pos hr] at hv;simp only[if_true,Option.bind_assoc,Option.bind_some];refine Ev.bind hv ?_
 have hj:=specTok_j0 (!decide (((recB l ns).size:Int)≤4000)) x id kk n t ty l ns (recB l ns) (fun hb=>by
  have h4:((recB l ns).size:Int)≤4000:=by rw[Bool.not_eq_false'] at hb;exact of_decide_eq_true hb
  exact⟨(sec_parts hs).1,(sec_parts hs).2,id_le hg,by omega,hv⟩)
 by_cases h4:(recB l ns).size≤4000
 ·rw[if_pos h4];rw[decide_eq_true (show((recB l ns).size:Int)≤4000 by omega)] at hj ⊢;exact hj
 ·rw[if_neg h4];rw[decide_eq_false (show ¬ ((recB l ns).size:Int)≤4000 by omega)] at hj ⊢;exact hj
theorem implTok_ev (x:Int) (id:ByteArray) (kd kk n:Int) (t ty:ByteArray) (l:List S30) (ns:List ByteArray) (hi:okS id) (h:∀ y ∈ l,okAt y) (hn:okTexts ns):Ev (fun q=>wv.f q x id kd kk n t ty l ns) (tokS x id kd kk n t ty l ns):=by
 simp only[wv.f,iSec,Option.bind_some];unfold tokS
 cases hs:secOk x
 case false=>simp only[Bool.false_eq_true,if_false];exact implNo _ _ _ _ _ _ _ _ _
 simp only[if_true];refine Ev.bind (implId_ev id hi) ?_
 cases hg:goodId id
 case false=>simp only[Bool.false_eq_true,if_false];exact implNo _ _ _ _ _ _ _ _ _
 simp only[if_true]
 by_cases hk:kd=3
 case neg =>
  simp only[xw.f,if_neg hk,Option.bind_some,Bool.false_eq_true,if_false];exact implNo _ _ _ _ _ _ _ _ _
 subst hk;simp only[xw.f,if_true,Option.bind_assoc,Option.bind_some];refine Ev.bind (implRec_ev kk n t ty l ns h hn) ?_;have hv:=implVal_ev kk n t ty l ns h hn
 cases hr:recOk kk n t ty l ns
 case false =>
  simp only[Bool.false_eq_true,if_false];exact implNo _ _ _ _ _ _ _ _ _
 rw[if_pos hr] at hv;simp only[if_true];refine Ev.bind hv ?_
 have hj:=implTok_j0 (decide (((recB l ns).size:Int) > 4000)) x id kk n t ty l ns (recB l ns) (fun hb=>by
  have h4:¬ ((recB l ns).size:Int) > 4000:=of_decide_eq_false hb;exact⟨(sec_parts hs).1,(sec_parts hs).2,id_le hg,by omega,hv⟩)
 by_cases h4:(recB l ns).size≤4000
 ·rw[if_pos h4];rw[decide_eq_false (show ¬ ((recB l ns).size:Int) > 4000 by omega)] at hj ⊢;exact hj
 ·rw[if_neg h4];rw[decide_eq_true (show((recB l ns).size:Int) > 4000 by omega)] at hj ⊢;exact hj
theorem szValue_ev (kd kk n:Int) (t ty:ByteArray) (l:List S23) (ns:List ByteArray) (ht:okS t) (hty:okS ty) (hl:okL ok23 l) (hn:okL okS ns):∃ r:Int,Ev (fun q=>qjj.f q kd kk n t ty l ns 1048576) r∧(¬ r < 0→l.length≤1048576∧okTexts ns):=by
 simp only[qjj.f];obtain⟨r0,e0,b0⟩:=szAtom_eq kk n t ty 1048576 ht hty (by omega) (by omega);simp only[e0,Option.bind_some]
 by_cases h0:r0 < 0
 ·simp only[if_pos h0];exact⟨-1,Ev.now _,fun h=>absurd (show(-1:Int) < 0 by decide) h⟩
 simp only[if_neg h0];obtain⟨r1,e1,b1,c1⟩:=szAtomS_ev l (fun e he=>⟨(hl.2 e he).2.2.1,(hl.2 e he).2.2.2⟩) hl.1 r0 (by omega) b0
 by_cases h1:r1 < 0
 ·refine⟨-1,Ev.bind e1 ?_,fun h=>absurd (show(-1:Int) < 0 by decide) h⟩;simp only[if_pos h1];exact Ev.now _
 obtain⟨r2,e2,b2,c2⟩:=szStringS_ev ns hn.2 hn.1 r1 (by omega) b1
 by_cases h2:r2 < 0
 ·refine⟨-1,Ev.bind e1 ?_,fun h=>absurd (show(-1:Int) < 0 by decide) h⟩;simp only[if_neg h1];refine Ev.bind e2 ?_;simp only[if_pos h2];exact Ev.now _
 ·refine⟨r2,Ev.bind e1 ?_,fun _=>⟨(c1 h1).1,c2 h2⟩⟩;simp only[if_neg h1];refine Ev.bind e2 ?_;simp only[if_neg h2];exact Ev.now _
theorem toValue_ev (kd kk n:Int) (t ty:ByteArray) (l:List S23) (ns:List ByteArray) (hl:l.length≤1048576) (hn:ns.length≤1048576):Ev (fun q=>qjx.f q kd kk n t ty l ns) (kd,kk,n,t,ty,l.map toAt,ns):=by
 simp only[qjx.f,qjk.f,Option.bind_some];refine Ev.bind (toAtomS_ev l hl) ?_;refine Ev.bind (toStringS_ev ns hn) ?_;exact Ev.now _
theorem eqValue_refl (kd kk n:Int) (t ty:ByteArray) (l:List S30) (ns:List ByteArray) (hl:l.length≤1048576) (hn:ns.length≤1048576):Ev (fun q=>qzw.f q kd kk n t ty l ns kd kk n t ty l ns) true:=by
 simp only[qzw.f,if_true,eqAtom_refl,Option.bind_some];refine Ev.bind (eqAtomS_refl l hl) ?_;simp only[if_true];refine Ev.bind (eqStringS_refl ns hn) ?_;simp only[if_true];exact Ev.now _
theorem FnExactSignToken:qzz.Pure:=by
 intro x id kd kk n t ty l ns hx hi hkd hkk hnn ht hty hl hn
 have h:Ev (fun f=>qzz.f f x id kd kk n t ty l ns) true:=by
  simp only[qzz.f]
  by_cases hz:(id.size:Int) > 1048576
  ·simp only[if_pos hz];exact Ev.now _
  simp only[if_neg hz];obtain⟨z,hz1,hz2⟩:=szValue_ev kd kk n t ty l ns ht hty hl hn;refine Ev.bind hz1 ?_
  by_cases h0:z < 0
  ·simp only[if_pos h0];exact Ev.now _
  obtain⟨n1,n2⟩:=hz2 h0;simp only[if_neg h0]
  have hT:∀ y ∈ l.map toAt,okAt y:=by
   intro y hy
   obtain⟨e,he,rfl⟩:=List.mem_map.1 hy;have:=hl.2 e he;exact⟨this.2.1,this.2.2.1,this.2.2.2⟩
  have hlm:(l.map toAt).length≤1048576:=by rw[List.length_map];exact n1
  have hc:=toValue_ev kd kk n t ty l ns n1 n2.1;refine Ev.bind hc ?_;refine Ev.bind (specTok_ev x id kd kk n t ty (l.map toAt) ns hi hT hlm n2) ?_;refine Ev.bind hc ?_;refine Ev.bind (implTok_ev x id kd kk n t ty (l.map toAt) ns hi hT n2) ?_;simp only[if_true];refine Ev.bind hc ?_;refine Ev.bind (eqValue_refl kd kk n t ty (l.map toAt) ns hlm n2.1) ?_;simp only[if_true];exact Ev.now _
 exact h.elim fun K hK=>⟨K,hK K (Nat.le_refl _)⟩
end Go.Proofs.YtkcdefnpbnbaeaaGreatDoor.Pure
namespace Go.Proofs.YtkcdefnpbnbaeaaGreatDoor.fnExactSignToken
open Go.ChangeShapes Go.WideShapes Go.ChangeAt Go.RowKit Go.Proofs.YtkcdefnpbnbaeaaGreatDoor.Read Go.Proofs.YtkcdefnpbnbaeaaGreatDoorW.PrintWords Go.Proofs.YtkcdefnpbnbaeaaGreatDoor.Pr
open Go.ChangeMaps (open_string shut_string)
set_option linter.unusedVariables false
theorem own:ownKnob Tryz.prog.godebug=none:=by kernel_rfl
theorem laidOut:laidOutB Tryz.prog=true:=by kernel_rfl
def tabCells (d:DataW Unit):Array Value:=match d with|.agg l=>(l.map fun x=>match x with|.lit (.int k z)=>Value.int k z|_=>undef).toArray|_=>#[]
noncomputable def laidWorld (os:Os):World:={ World.holding Tryz.prog os ⟨#[],#[],[]⟩ with heap:=(fun h=>h.modify 2 fun|.cells _ t frozen=>.cells (tabCells Rows.laid_math_bits_deBruijn32tab) t frozen|o=>o) <| (fun h=>h.modify 3 fun|.cells _ t frozen=>.cells (tabCells Rows.laid_math_bits_deBruijn64tab) t frozen|o=>o) <| (fun h=>h.modify 0 fun|.cells _ t frozen=>.cells (tabCells Rows.laid_internal_strconv_uint64pow10) t frozen|o=>o) <| (World.holding Tryz.prog os ⟨#[],#[],[]⟩).heap }
theorem laidWorld_met (os:Os) (args:Array Value):laidMet Tryz.prog Rows.fnExactSignTokenRow.laid ((laidWorld os).forCall (fun _ _=>0) ⟨#[],args,[]⟩).memory :=
 laidMet_of_run' 8 (by kernel_rfl) (by kernel_rfl)
theorem tab_of_laid {W:World} (h:laidMet Tryz.prog Rows.fnExactSignTokenRow.laid W):TabW W:=by
 have h2 : laidMet Tryz.prog (("internal/strconv.uint64pow10", Lib.tabData .u64 Lib.pow10Tab) :: []) W := laidMet.tail (laidMet.tail ((show laidMet Tryz.prog (("math/bits.deBruijn32tab", Rows.laid_math_bits_deBruijn32tab) :: ("math/bits.deBruijn64tab", Rows.laid_math_bits_deBruijn64tab) :: ("internal/strconv.uint64pow10", Lib.tabData .u64 Lib.pow10Tab) :: []) W from h)))
 exact Lib.tabIs_of_head (g:=0) (t:=131) (e:=83) (n:=20) (by kernel_rfl) (by kernel_rfl) Tryz.underlying131 Tryz.underlying83 (by kernel_rfl) (by kernel_rfl) h2
theorem lifted (os:Os) (started:os.Started) (H:Type) (enc:TypeId × Value→H) :
  ReturnsInHanded {} Tryz.checked os 3 .any (fun w args=>(Rows.fnExactSignTokenSpec.pre enc Tryz.prog Tryz.f3 Rows.fnExactSignTokenRow.domain false w args∧laidMet Tryz.prog Rows.fnExactSignTokenRow.laid w)∧sizedMet enc Tryz.prog Tryz.f3 (OpenSpec.ofChange Rows.fnExactSignTokenSpec) false w args) (Rows.fnExactSignTokenSpec.post enc Tryz.prog Tryz.f3 false true false false):=by
 refine returnsInHanded_of_change_and (C:=Tryz.checked) (X:=fun w _=>laidMet Tryz.prog Rows.fnExactSignTokenRow.laid w) (fun _ _ _ hh h=>h.of_heap hh) own started (by kernel_rfl) Tryz.func3
  (ChangeSpec.witness_at (enc:=enc) (C:=Tryz.checked) (os:=os) (X:=fun w _=>laidMet Tryz.prog Rows.fnExactSignTokenRow.laid w) false (laidWorld os) #[.int .i64 0,.string ByteArray.empty,.agg #[.int .i64 0,.int .i64 0,.int .i64 0,.string ByteArray.empty,.string ByteArray.empty,.slice none 0 0,.slice none 0 0]] 8 rfl (by kernel_rfl) (by kernel_rfl) (by kernel_rfl) (by kernel_rfl) (by kernel_rfl) (laidWorld_met os _)) ?_
 intro W base args ds gs before hval0 hW hcnd _ hL _
 have htab:=tab_of_laid hL;clear hL;have hval:∀ (j:Nat) t v,Tryz.f3.params[j]? = some t→args[j]? = some v→Value.okWide Tryz.prog W .any base t v:=hval0;have hW':=hW;obtain⟨p,q,hA0,hV,rfl,hfz,hnd⟩:=hW;have hA:DataW.TrodAll enc Tryz.prog W 0 (fun _=>true) true Tryz.f3.params.toList args.toList ds p:=hA0;rw[Tryz.params3] at hA hval;obtain⟨v0,vs0,d0,ds0,p0,q0,hargs,rfl,rfl,h0,r0⟩:=trodAll_cons hA;obtain⟨v1,vs1,d1,ds1,p1,q1,rfl,rfl,rfl,h1,r1⟩:=trodAll_cons r0;obtain⟨v2,vs2,d2,ds2,p2,q2,rfl,rfl,rfl,h2,r2⟩:=trodAll_cons r1;obtain⟨rfl,rfl,rfl⟩:=trodAll_nil r2;obtain rfl:args = #[v0,v1,v2]:=by cases args;simp_all
 obtain⟨rfl,rfl⟩:=trodVars_none hV;have lt0:∀ x ∈ p0,x.block < W.heap.size:=by obtain⟨m,hm⟩:=h0;exact DataW.trod_lt m _ _ _ hm
 have bk0:=fun {W':World} (bel:Below W.heap.size W W')=>Below.trod laidOut (by kernel_rfl) (of_decide_eq_true (by kernel_rfl)) h0 bel lt0
 obtain⟨a0,rfl,_,_,w0⟩:=open_int Tryz.underlying3 (hval 0 3 v0 rfl rfl) h0;have o0:=int_bounds w0;have lt1:∀ x ∈ p1,x.block < W.heap.size:=by obtain⟨m,hm⟩:=h1;exact DataW.trod_lt m _ _ _ hm
 have bk1:=fun {W':World} (bel:Below W.heap.size W W')=>Below.trod laidOut (by kernel_rfl) (of_decide_eq_true (by kernel_rfl)) h1 bel lt1
 obtain⟨a1,rfl,_,_,o1⟩:=open_string Tryz.underlying9 (hval 1 9 v1 rfl rfl) h1;unfold maxLen at o1;have lt2:∀ x ∈ p2,x.block < W.heap.size:=by obtain⟨m,hm⟩:=h2;exact DataW.trod_lt m _ _ _ hm
 have bk2:=fun {W':World} (bel:Below W.heap.size W W')=>Below.trod laidOut (by kernel_rfl) (of_decide_eq_true (by kernel_rfl)) h2 bel lt2
 obtain⟨⟨a2_0,⟨⟨a2_1,⟨a2_2,⟨a2_3,a2_4⟩⟩⟩,⟨l2_5,l2_6⟩⟩⟩,cs2,hv2,hK2,⟨o2_0,⟨⟨o2_1,⟨o2_2,⟨o2_3,o2_4⟩⟩⟩,⟨o2_5,o2_6⟩⟩⟩⟩:=arg_struct Tryz.underlying27 (tells_struct Tryz.underlying27 (by kernel_rfl) (fs_cons rfl (tellsI Tryz.underlying3 (by kernel_rfl)) (fs_cons rfl (tells_struct Tryz.underlying23 (by kernel_rfl) (fs_cons rfl (tellsI Tryz.underlying3 (by kernel_rfl)) (fs_cons rfl (tellsI Tryz.underlying3 (by kernel_rfl)) (fs_cons rfl (tellsS Tryz.underlying9 (by kernel_rfl)) (fs_one rfl (tellsS Tryz.underlying9 (by kernel_rfl))))))) (fs_cons rfl (tellsL Tryz.underlying24 (by kernel_rfl) tells23) (fs_one rfl (tellsL Tryz.underlying25 (by kernel_rfl) (tellsS Tryz.underlying9 (by kernel_rfl)))))))) (hval 2 27 v2 rfl rfl) h2;obtain⟨_,_,rfl,rfl,⟨_,_,rfl,⟨_,_,rfl,rfl,⟨_,_,rfl,rfl,⟨_,_,rfl,rfl,rfl⟩⟩⟩,⟨_,_,rfl,⟨A2_5,c2_5,rfl,hl2_5,hC2_5⟩,⟨A2_6,c2_6,rfl,hl2_6,hC2_6⟩⟩⟩⟩:=hK2;simp only[List.cons_append,List.nil_append] at hv2;subst hv2;obtain⟨k,hk⟩:=Pure.FnExactSignToken a0 a1 a2_0 a2_1 a2_2 a2_3 a2_4 l2_5 l2_6 o0 o1 o2_0 o2_1 o2_2 o2_3 o2_4 o2_5 o2_6;refine(qzz.calls k a0 a1 a2_0 a2_1 a2_2 a2_3 a2_4 _ _ l2_5 _ _ l2_6 true W htab hC2_5 hl2_5 hC2_6 hl2_6 hk).mono fun e W' hpost=>?_
 obtain⟨he,hb⟩:=hpost;have bel:Below W.heap.size W W':=hb;subst he;exact⟨_,rfl,_,_,_,[],_,[],hW',trodAll_mk1 (shut_bool Tryz.underlying4 _),(trodAll_cons_mk (bk0 bel) (trodAll_cons_mk (bk1 bel) (trodAll_cons_mk (bk2 bel) trodAll_mk0))),rfl,bel.frame _,fun h=>by cases h⟩
theorem over:Rows.fnExactSignTokenRow.holds Tryz.pinned (OpenSpec.ofChange Rows.fnExactSignTokenSpec) :=
 OpenClaim.holds_of_wide 3 Tryz.f3 rfl rfl rfl rfl rfl rfl rfl ⟨rfl,rfl,rfl,rfl,rfl⟩ rfl rfl rfl rfl rfl (by kernel_rfl) Tryz.func3 (by kernel_rfl)
  (of_decide_eq_true (by kernel_rfl)) (by unfold Func.isWrapper;first|(rw[if_pos (by decide +kernel)];kernel_rfl)|(rw[if_neg (by decide +kernel)];exact⟨rfl,rfl⟩))
  (fun os started H enc _=>lifted os started H enc)
theorem row_holds:Rows.FnExactSignTokenSaid:=over
theorem proved:Rows.FnExactSignTokenCardSaid :=
 Claim7.holds_tied_plain_at .later [] [.data, .data, .data] true (true, "5e411eae91417816d244e2d828eb1ebed8a59e539d9a647a2283ef8ba8c8c65d") true over (fun _ h => by cases h) (by kernel_rfl) (fun _ h => by cases h) fnExactSignToken_row_tie rfl ⟨rfl, rfl⟩ (by kernel_rfl) rfl
  (fun f fn hf hfn=>by
   obtain rfl : f = 3 := Option.some.inj ((show Tryz.prog.funcNamed "loop.example/g00036/laws.FnExactSignToken" = some 3 by kernel_rfl).symm.trans hf) |>.symm
   obtain rfl:fn=Tryz.f3:=(Option.some.inj (Tryz.func3.symm.trans hfn)).symm
   exact⟨by kernel_rfl,fun j t ht=>by
    rw[Tryz.params3] at ht
    have hm:t ∈ ([3,9,27]:List TypeId):=by
     have h2:([3,9,27]:List TypeId)[j]? = some t:=by simpa using ht
     exact List.mem_of_getElem? h2
    simp only[List.mem_cons,List.not_mem_nil,or_false] at hm
    rcases hm with rfl|rfl|rfl
    ·exact(show Tryz.prog.wantsStandIn 3=false by kernel_rfl)
    ·exact(show Tryz.prog.wantsStandIn 9=false by kernel_rfl)
    ·exact(show Tryz.prog.wantsStandIn 27=false by kernel_rfl)⟩)
  (by kernel_rfl)
#print axioms proved
end Go.Proofs.YtkcdefnpbnbaeaaGreatDoor.fnExactSignToken
namespace Go.Proofs.YtkcdefnpbnbaeaaGreatDoor
theorem fnExactSignToken_holds:Rows.FnExactSignTokenCardSaid:=fnExactSignToken.proved
end Go.Proofs.YtkcdefnpbnbaeaaGreatDoor
