/- The law FnHeads: whatever the input, the call returns true and the arguments read as before. No conditions. -/
import Derived.Test.YtipdkendfcopiaaFullFnHeadsF
import Derived.Test.YtipdkendfcopiaaRows
import Derived.WalkKit
import Derived.ProofKit
import Derived.OpenShut
import Derived.ShutString
import Derived.ChangeOld
import Derived.Below
set_option maxHeartbeats 8000000
set_option maxRecDepth 100000
open List renaming map_toArray → jq0, map_cons → jq1, map_nil → jq2, length_drop → jq3, length_take → jq4, setIfInBounds_toArray → jq5, set_cons_zero → jq6, set_cons_succ → jq7
open Option renaming bind_eq_some_iff → jq8
open Bool renaming eq_false_iff → jq9, true → Z, false → Y
namespace Go.Proofs.Ytipdkendfcopiaa.Pure
open Go.RowKit Go.Proofs.Ytipdkendfcopiaa.Read Go.Proofs.YtipdkendfcopiaaW.PrintWords Go.Proofs.Ytipdkendfcopiaa.Pr
set_option linter.unusedVariables false
def headL (p n:Int) (root:List Int) (r s:Int):Bool:=if 0≤n∧n≤200∧root.length=16 then verL p (yb n ++ root) r s else false
theorem specHead_ev (p n:Int) (root:List Int) (r s:Int) (hb:isBytes root):Ev (fun k=>qjw.f k p n root r s) (headL p n root r s):=by
 simp only[qjw.f]
 by_cases h1:n ≥ 0
 case neg=>simp only[if_neg h1,headL,if_neg (show ¬ (0≤n∧n≤200∧root.length=16) from fun h=>h1 h.1)];exact Ev.now _
 by_cases h2:n≤200
 case neg=>simp only[if_pos h1,if_neg h2,headL,if_neg (show ¬ (0≤n∧n≤200∧root.length=16) from fun h=>h2 h.2.1)];exact Ev.now _
 by_cases h3:(root.length:Int)=16
 case neg=>simp only[if_pos h1,if_pos h2,if_neg h3,headL,if_neg (show ¬ (0≤n∧n≤200∧root.length=16) from fun h=>h3 (by omega))];exact Ev.now _
 simp only[if_pos h1,if_pos h2,if_pos h3,qxk.f,headL,if_pos (show 0≤n∧n≤200∧root.length=16 from⟨h1,h2,by omega⟩)]
 have e1:Ev (fun k=>(qxv.f k n).bind fun t=>if t.length + root.length < 140737488355328 then some (t ++ root) else none) (yb n ++ root):=by
  refine Ev.bind ⟨5,fun k hk=>specBytes_eq n (by omega) (by omega) k hk⟩ ?_
  simp only[if_pos (show(yb n).length + root.length < 140737488355328 by rw[yb_len];omega)]
  exact Ev.now _
 refine Ev.bind e1 ?_
 exact Ev.bind (specVerify_ev p _ r s (isBytes_append (yb_bytes n) hb)) (Ev.now _)
theorem implHead_ev (p n:Int) (root:List Int) (r s:Int) (hb:isBytes root):Ev (fun k=>xz.f k p n root r s) (headL p n root r s):=by
 simp only[xz.f]
 by_cases h1:n ≥ 0
 case neg=>simp only[if_neg h1,headL,if_neg (show ¬ (0≤n∧n≤200∧root.length=16) from fun h=>h1 h.1)];exact Ev.now _
 by_cases h2:n≤200
 case neg=>simp only[if_pos h1,if_neg h2,headL,if_neg (show ¬ (0≤n∧n≤200∧root.length=16) from fun h=>h2 h.2.1)];exact Ev.now _
 by_cases h3:root.length=16
 case neg =>
  have e:qjz.f [root]=some false:=by simp[qjz.f,bad16,h3]
  simp only[if_pos h1,if_pos h2,e,Option.bind_some,Bool.false_eq_true,if_false,headL,if_neg (show ¬ (0≤n∧n≤200∧root.length=16) from fun h=>h3 h.2.2)];exact Ev.now _
 have e:qjz.f [root]=some true:=by simp[qjz.f,bad16,h3]
 have e2:qzz.f n root=some (yb n ++ root):=by
  have y1:qqw.f n=some (yb n):=rfl
  unfold qzz.f
  rw[y1,Option.bind_some,if_pos (by rw[yb_len];omega)]
 simp only[if_pos h1,if_pos h2,e,e2,Option.bind_some,if_true,headL,if_pos (show 0≤n∧n≤200∧root.length=16 from⟨h1,h2,h3⟩)]
 exact Ev.bind (implVerify_ev p _ r s (isBytes_append (yb_bytes n) hb)) (Ev.now _)
def shL (x:Int) (l:List S27):Int × List Int × Int × Int :=
 if goodLog l∧1≤x∧x < 1073741789 then((l.length:Int),logRoot l,(signL x (yb (l.length:Int) ++ logRoot l)).1,(signL x (yb (l.length:Int) ++ logRoot l)).2) else(0,[],0,0)
theorem logRoot_bytes {l:List S27} (hg:goodLog l):isBytes (logRoot l):=by
 unfold logRoot
 rw[if_pos hg]
 exact(root_ok (by rw[List.length_map];exact hg.1) (sixt_leaves l)).1
theorem secret_dec (x:Int):(if x ≥ 1 then some (decide (x < 1073741789)) else some false)=some (decide (1≤x∧x < 1073741789)):=by
 by_cases h:x ≥ 1
 ·rw[if_pos h]
  by_cases h2:x < 1073741789
  ·rw[decide_eq_true h2,decide_eq_true (show 1≤x∧x < 1073741789 from⟨h,h2⟩)]
  ·rw[decide_eq_false h2,decide_eq_false (show ¬ (1≤x∧x < 1073741789) from fun h3=>h2 h3.2)]
 ·rw[if_neg h,decide_eq_false (show ¬ (1≤x∧x < 1073741789) from fun h3=>h h3.1)]
theorem specSignHead_ev (x:Int) (l:List S27) (hok:∀ e ∈ l,okR e):Ev (fun k=>qkv.f k x l) (shL x l):=by
 simp only[qkv.f]
 refine Ev.bind (specLeaves_ev l hok) ?_
 by_cases hg:goodLog l
 case neg =>
  rw[show leavesL l=([],false) from if_neg hg,show shL x l=(0,[],0,0) from if_neg (fun h=>hg h.1)]
  simp only[Bool.false_eq_true,if_false]
  exact Ev.up1 (by simp only[qkv.j0,if_true];exact Ev.now _)
 rw[show leavesL l=(l.map leafS,true) from if_pos hg]
 simp only[if_true,zqw.f,secret_dec,Option.bind_some]
 refine Ev.up1 ?_
 by_cases hx : 1≤x∧x < 1073741789
 case neg =>
  rw[show shL x l=(0,[],0,0) from if_neg (fun h=>hx h.2)]
  simp only[qkv.j0,decide_eq_false hx,Bool.not_false,if_true]
  exact Ev.now _
 rw[show shL x l=((l.length:Int),logRoot l,(signL x (yb (l.length:Int) ++ logRoot l)).1,(signL x (yb (l.length:Int) ++ logRoot l)).2) from if_pos ⟨hg,hx⟩]
 simp only[qkv.j0,decide_eq_true hx,Bool.not_true,Bool.false_eq_true,if_false,List.length_map]
 have hr:Ev (fun k=>qxj.f k (l.map leafS)) (logRoot l):=by
  unfold logRoot
  rw[if_pos hg]
  exact specRoot_aux _ (l.map leafS) (Nat.le_refl _) (by rw[List.length_map];exact hg.1) (sixt_leaves l)
 have hlen:=logRoot_len hg
 have hby:=logRoot_bytes hg
 have h200:=hg.1
 generalize logRoot l=R at hr hlen hby
 refine Ev.bind hr ?_
 have e1:Ev (fun k=>qxk.f k (l.length:Int) R 0 0) (yb (l.length:Int) ++ R):=by
  simp only[qxk.f]
  refine Ev.bind ⟨5,fun k hk=>specBytes_eq (l.length:Int) (by omega) (by omega) k hk⟩ ?_
  simp only[if_pos (show(yb (l.length:Int)).length + R.length < 140737488355328 by rw[yb_len];omega)]
  exact Ev.now _
 refine Ev.bind e1 ?_
 exact Ev.bind (specSign_ev x _ hx.1 hx.2 (isBytes_append (yb_bytes _) hby) (by rw[List.length_append,yb_len];omega)) (Ev.now _)
theorem implSignHead_ev (x:Int) (l:List S27) (hok:∀ e ∈ l,okR e):Ev (fun k=>qqj.f k x l) (shL x l):=by
 simp only[qqj.f]
 refine Ev.bind (implRootOf_ev l hok) ?_
 simp only[qjq.f,secret_dec,Option.bind_some]
 by_cases hx : 1≤x∧x < 1073741789
 case neg =>
  rw[show shL x l=(0,[],0,0) from if_neg (fun h=>hx h.2)]
  simp only[decide_eq_false hx,Bool.false_eq_true,if_false]
  exact Ev.up1 (by simp only[qqj.j0,if_true];exact Ev.now _)
 simp only[decide_eq_true hx,if_true,nilS.f,Option.bind_some]
 refine Ev.up1 ?_
 by_cases hg:goodLog l
 case neg =>
  rw[show shL x l=(0,[],0,0) from if_neg (fun h=>hg h.1),show logRoot l=[] from if_neg hg]
  simp only[qqj.j0,List.length_nil,decide_true,if_true]
  exact Ev.now _
 rw[show shL x l=((l.length:Int),logRoot l,(signL x (yb (l.length:Int) ++ logRoot l)).1,(signL x (yb (l.length:Int) ++ logRoot l)).2) from if_pos ⟨hg,hx⟩]
 have hlen:=logRoot_len hg
 have hby:=logRoot_bytes hg
 have h200:=hg.1
 generalize logRoot l=R at hlen hby
 have e2:qzz.f (l.length:Int) R=some (yb (l.length:Int) ++ R):=by
  have y1:qqw.f (l.length:Int)=some (yb (l.length:Int)):=rfl
  unfold qzz.f
  rw[y1,Option.bind_some,if_pos (by rw[yb_len];omega)]
 simp only[qqj.j0,decide_eq_false (show ¬ R.length=0 by omega),Bool.false_eq_true,if_false,e2,Option.bind_some]
 have h:=implSign_ev x (yb (l.length:Int) ++ R) (isBytes_append (yb_bytes _) hby) (by rw[List.length_append,yb_len];omega)
 rw[if_pos hx] at h
 exact Ev.bind h (Ev.now _)
theorem PublicOf_ev (x:Int) (h : 1≤x∧x < 1073741789):Ev (fun k=>qkj.f k x) (pwm 4 x.toNat):=⟨50,fun k hk=>specPublicOf_eq x h.1 h.2 k hk⟩
theorem inc_bytes {l:List Int} (h:isBytes l) (x:Int):isBytes (l.set (0:Int).toNat ((x + 1) % 256)):=by
 intro y hy
 rcases List.mem_or_eq_of_mem_set hy with hy|hy
 ·exact h y hy
 ·subst hy
  exact⟨Int.emod_nonneg _ (by omega),by have:=Int.emod_lt_of_pos (x + 1) (show(0:Int) < 256 by omega);omega⟩
theorem shL_bytes (x:Int) (l:List S27):isBytes (shL x l).2.1:=by
 by_cases hg:goodLog l∧1≤x∧x < 1073741789
 ·rw[show shL x l=_ from if_pos hg]
  exact logRoot_bytes hg.1
 ·rw[show shL x l=(0,[],0,0) from if_neg hg]
  exact nil_bytes
theorem drawCheckHead_ev (code:List Int) (hc:okL okB code):∃ (p n:Int) (root:List Int) (r s:Int),Ev (fun k=>qjx.f k code) (p,n,root,r,s)∧isBytes root:=by
 simp only[qjx.f,newCur.f,Option.bind_some]
 obtain⟨v,p1,h1,e1,v0,v1,g1,g2⟩:=cur_pick code hc 0 0 60000 (by omega) (by omega)
 simp only[e1,Option.bind_some,w64 (show -9223372036854775808≤1 + v by omega) (show 1 + v≤9223372036854775807 by omega)]
 obtain⟨l,p2,h2,e2,hl,g3,g4,_⟩:=cur_log code hc 8 (by omega) p1 h1 (by omega) (by omega)
 simp only[Int.cast_ofNat_Int] at e2
 have hb:=shL_bytes (1 + v) l
 have e3:=specSignHead_ev (1 + v) l hl
 generalize shL (1 + v) l=H at hb e3
 obtain⟨n,root,r,s⟩:=H
 replace hb:isBytes root:=hb
 obtain⟨q,p3,h3,e4,q0,q1,_,_⟩:=cur_pick code hc p2 h2 8 (by omega) (by omega)
 have pb:=PublicOf_ev (1 + v) (by omega)
 have pb2:=PublicOf_ev (1 + v + 1) (by omega)
 by_cases c0:q=0
 ·refine⟨pwm 4 (1 + v).toNat,wrap64 (n + 1),root,r,s,Ev.bind e2 (Ev.bind e3 ?_),hb⟩
  simp only[e4,Option.bind_some,if_pos c0]
  exact Ev.bind pb (Ev.now _)
 by_cases c1:q=1
 ·by_cases c2:(root.length:Int) > 0
  ·refine⟨pwm 4 (1 + v).toNat,n,root.set (0:Int).toNat ((rd root 0 + 1) % 256),r,s,Ev.bind e2 (Ev.bind e3 ?_),inc_bytes hb (rd root 0)⟩
   simp only[e4,Option.bind_some,if_neg c0,if_pos c1,if_pos c2]
   exact Ev.bind pb (Ev.now _)
  ·refine⟨pwm 4 (1 + v).toNat,n,root,r,s,Ev.bind e2 (Ev.bind e3 ?_),hb⟩
   simp only[e4,Option.bind_some,if_neg c0,if_pos c1,if_neg c2]
   exact Ev.bind pb (Ev.now _)
 by_cases c2:q=2
 ·refine⟨pwm 4 (1 + v).toNat,n,[],r,s,Ev.bind e2 (Ev.bind e3 ?_),nil_bytes⟩
  simp only[e4,Option.bind_some,if_neg c0,if_neg c1,if_pos c2]
  exact Ev.bind pb (Ev.now _)
 by_cases c3:q=3
 ·refine⟨pwm 4 (1 + v + 1).toNat,n,root,r,s,Ev.bind e2 (Ev.bind e3 ?_),hb⟩
  simp only[e4,Option.bind_some,if_neg c0,if_neg c1,if_neg c2,if_pos c3,w64 (show -9223372036854775808≤1 + v + 1 by omega) (show 1 + v + 1≤9223372036854775807 by omega)]
  exact Ev.bind pb2 (Ev.now _)
 ·refine⟨pwm 4 (1 + v).toNat,n,root,r,s,Ev.bind e2 (Ev.bind e3 ?_),hb⟩
  simp only[e4,Option.bind_some,if_neg c0,if_neg c1,if_neg c2,if_neg c3]
  exact Ev.bind pb (Ev.now _)
theorem FnHeads:qjj.Pure:=by
 intro code hc
 by_cases hbig:(code.length:Int) > 1048576
 ·exact⟨0,by simp only[qjj.f,if_pos hbig]⟩
 apply Ev.rounds
 simp only[qjj.f,if_neg hbig]
 obtain⟨x,p1,h1,e1,g1,g2⟩:=cur_secret code hc 0 0 (by omega) (by omega)
 obtain⟨l,p2,h2,e2,hl,g3,g4,_⟩:=cur_log code hc 10 (by omega) p1 h1 (by omega) (by omega)
 simp only[Int.cast_ofNat_Int] at e2
 have hdraw:Ev (fun k=>qkq.f k code) (x,l):=by
  simp only[qkq.f,newCur.f,Option.bind_some,e1]
  exact Ev.bind e2 (Ev.now _)
 refine Ev.bind hdraw ?_
 refine Ev.bind (implSignHead_ev x l hl) ?_
 refine Ev.bind (specSignHead_ev x l hl) ?_
 have hz:qjk.f (shL x l).2.1 (shL x l).2.1=some true:=by simp[qjk.f]
 simp only[if_true,hz,Option.bind_some,beq_self_eq_true,Bool.not_true,Bool.or_self,Bool.false_eq_true,if_false]
 by_cases hg:goodLog l∧1≤x∧x < 1073741789
 case neg =>
  rw[show shL x l=(0,[],0,0) from if_neg hg]
  simp only[List.length_nil,Int.cast_ofNat_Int,if_true]
  exact Ev.now _
 have hlen:=logRoot_len hg.1
 have hby:=logRoot_bytes hg.1
 have h200:=hg.1.1
 rw[show shL x l=((l.length:Int),logRoot l,(signL x (yb (l.length:Int) ++ logRoot l)).1,(signL x (yb (l.length:Int) ++ logRoot l)).2) from if_pos hg]
 have hver:=sign_verified x (yb (l.length:Int) ++ logRoot l) hg.2.1 hg.2.2 (by rw[List.length_append,yb_len];omega)
 generalize signL x (yb (l.length:Int) ++ logRoot l)=sg at hver
 generalize logRoot l=R at hlen hby hver
 simp only[if_neg (show ¬ (R.length:Int)=0 by omega)]
 obtain⟨p,n,root,r,s,hd,hroot⟩:=drawCheckHead_ev code hc
 refine Ev.bind hd ?_
 refine Ev.bind (PublicOf_ev x hg.2) ?_
 have hi:=implHead_ev (pwm 4 x.toNat) (l.length:Int) R sg.1 sg.2 hby
 rw[show headL (pwm 4 x.toNat) (l.length:Int) R sg.1 sg.2=true from by unfold headL;rw[if_pos (show(0:Int)≤(l.length:Int)∧(l.length:Int)≤200∧R.length=16 from⟨by omega,by omega,hlen⟩)];exact hver] at hi
 refine Ev.bind hi ?_
 simp only[if_true]
 refine Ev.bind (implHead_ev p n root r s hroot) ?_
 refine Ev.bind (specHead_ev p n root r s hroot) ?_
 simp only[beq_self_eq_true]
 exact Ev.now _
end Go.Proofs.Ytipdkendfcopiaa.Pure
namespace Go.Proofs.Ytipdkendfcopiaa.fnHeads
open Go.ChangeShapes Go.WideShapes Go.ChangeAt Go.RowKit Go.Proofs.Ytipdkendfcopiaa.Read Go.Proofs.YtipdkendfcopiaaW.PrintWords Go.Proofs.Ytipdkendfcopiaa.Pr
open Go.ChangeMaps (open_string shut_string)
set_option linter.unusedVariables false
theorem own:ownKnob Try.prog.godebug=none:=by kernel_rfl
theorem laidOut:laidOutB Try.prog=true:=by kernel_rfl
theorem lifted (os:Os) (started:os.Started) (H:Type) (enc:TypeId × Value→H) :
  ReturnsInHanded {} Try.checked os 15 .any (Rows.fnHeadsSpec.pre6 enc Try.prog Try.f15 Rows.fnHeadsRow.domain false) (Rows.fnHeadsSpec.post enc Try.prog Try.f15 false true false false):=by
 refine returnsInHanded_of_change (C:=Try.checked) own started (by kernel_rfl) Try.func15
  (ChangeSpec.witness6 (enc:=enc) (C:=Try.checked) false ⟨#[],#[.slice none 0 0],[]⟩ 8 (by kernel_rfl) (by kernel_rfl) (by kernel_rfl) (by kernel_rfl)) ?_
 intro W base args ds gs before hval0 hW hcnd _
 have hval:∀ (j:Nat) t v,Try.f15.params[j]? = some t→args[j]? = some v→Value.okWide Try.prog W .any base t v:=hval0
 have hW':=hW
 obtain⟨p,q,hA0,hV,rfl,hfz,hnd⟩:=hW
 have hA:DataW.TrodAll enc Try.prog W 0 (fun _=>true) true Try.f15.params.toList args.toList ds p:=hA0
 rw[Try.params15] at hA hval
 obtain⟨v0,vs0,d0,ds0,p0,q0,hargs,rfl,rfl,h0,r0⟩:=trodAll_cons hA
 obtain⟨rfl,rfl,rfl⟩:=trodAll_nil r0
 obtain rfl:args = #[v0]:=by cases args;simp_all
 obtain⟨rfl,rfl⟩:=trodVars_none hV
 have lt0:∀ x ∈ p0,x.block < W.heap.size:=by obtain⟨m,hm⟩:=h0;exact DataW.trod_lt m _ _ _ hm
 have bk0:=fun {W':World} (bel:Below W.heap.size W W')=>Below.trod laidOut (by kernel_rfl) (of_decide_eq_true (by kernel_rfl)) h0 bel lt0
 obtain⟨A0,c0,l0,rfl,hl0,hC0,o0⟩:=arg_slice Try.underlying22 (tellsL Try.underlying22 (by kernel_rfl) (tellsB Try.underlying5 (by kernel_rfl))) (hval 0 22 v0 rfl rfl) h0
 obtain⟨k,hk⟩:=Pure.FnHeads l0 o0
 refine(qjj.calls k _ _ l0 true W hC0 hl0 hk).mono fun e W' hpost=>?_
 obtain⟨he,hb⟩:=hpost
 have bel:Below W.heap.size W W':=hb
 subst he
 exact⟨_,rfl,_,_,_,[],_,[],hW',trodAll_mk1 (shut_bool Try.underlying4 _),(trodAll_cons_mk (bk0 bel) trodAll_mk0),rfl,bel.frame _,fun h=>by cases h⟩
theorem over:Rows.fnHeadsRow.holds Try.pinned (OpenSpec.ofChange Rows.fnHeadsSpec) :=
 OpenClaim.holds_of_wide 15 Try.f15 rfl rfl rfl rfl rfl rfl rfl ⟨rfl,rfl,rfl,rfl,rfl⟩ rfl rfl rfl rfl rfl (by kernel_rfl) Try.func15 (by kernel_rfl)
  (of_decide_eq_true (by kernel_rfl)) (by unfold Func.isWrapper;first|(rw[if_pos (by decide +kernel)];kernel_rfl)|(rw[if_neg (by decide +kernel)];exact⟨rfl,rfl⟩))
  (fun os started H enc _=>lifted os started H enc)
theorem proved:Rows.FnHeadsSaid:=over
#print axioms proved
end Go.Proofs.Ytipdkendfcopiaa.fnHeads
namespace Go.Proofs.Ytipdkendfcopiaa
theorem fnHeads_holds:Rows.FnHeadsSaid:=fnHeads.proved
end Go.Proofs.Ytipdkendfcopiaa
