/- The law FnExactGoodAttack: whatever the input, the call returns true and the arguments read as before. No conditions. -/
import Derived.Test.YtakocdkcfjkmdaaFullFnExactGoodAttackF
import Derived.Test.YtakocdkcfjkmdaaRows
import Derived.WalkKit
import Derived.ProofKit
import Derived.OpenShut
import Derived.ShutString
import Derived.ChangeOld
import Derived.Below
set_option maxHeartbeats 8000000
set_option maxRecDepth 100000
open List renaming map_toArray → jq0, map_cons → jq1, map_nil → jq2, length_drop → jq3, length_take → jq4, setIfInBounds_toArray → jq5, set_cons_zero → jq6, set_cons_succ → jq7
open Option renaming bind_eq_some_iff → jq8
open Bool renaming eq_false_iff → jq9, true → Z, false → Y
namespace Go.Proofs.Ytakocdkcfjkmdaa.fnExactGoodAttack
open Go.ChangeShapes Go.WideShapes Go.ChangeAt Go.RowKit Go.Proofs.Ytakocdkcfjkmdaa.Read Go.Proofs.YtakocdkcfjkmdaaW.PrintWords Go.Proofs.Ytakocdkcfjkmdaa.Pr
open Go.ChangeMaps (open_string shut_string)
set_option linter.unusedVariables false
theorem own:ownKnob Try.prog.godebug=none:=by kernel_rfl
theorem laidOut:laidOutB Try.prog=true:=by kernel_rfl
theorem lifted (os:Os) (started:os.Started) (H:Type) (enc:TypeId × Value→H) :
  ReturnsInHanded {} Try.checked os 7 .any (Rows.fnExactGoodAttackSpec.pre6 enc Try.prog Try.f7 Rows.fnExactGoodAttackRow.domain false) (Rows.fnExactGoodAttackSpec.post enc Try.prog Try.f7 false true false false):=by
 refine returnsInHanded_of_change (C:=Try.checked) own started (by kernel_rfl) Try.func7
  (ChangeSpec.witness6 (enc:=enc) (C:=Try.checked) false ⟨#[],#[.agg #[.slice none 0 0,.slice none 0 0,.int .i64 0,.int .i64 0,.string ByteArray.empty,.string ByteArray.empty,.bool false,.bool false]],[]⟩ 8 (by kernel_rfl) (by kernel_rfl) (by kernel_rfl) (by kernel_rfl)) ?_
 intro W base args ds gs before hval0 hW hcnd _
 have hval:∀ (j:Nat) t v,Try.f7.params[j]? = some t→args[j]? = some v→Value.okWide Try.prog W .any base t v:=hval0
 have hW':=hW
 obtain⟨p,q,hA0,hV,rfl,hfz,hnd⟩:=hW
 have hA:DataW.TrodAll enc Try.prog W 0 (fun _=>true) true Try.f7.params.toList args.toList ds p:=hA0
 rw[Try.params7] at hA hval
 obtain⟨v0,vs0,d0,ds0,p0,q0,hargs,rfl,rfl,h0,r0⟩:=trodAll_cons hA
 obtain⟨rfl,rfl,rfl⟩:=trodAll_nil r0
 obtain rfl:args = #[v0]:=by cases args;simp_all
 obtain⟨rfl,rfl⟩:=trodVars_none hV
 have lt0:∀ x ∈ p0,x.block < W.heap.size:=by obtain⟨m,hm⟩:=h0;exact DataW.trod_lt m _ _ _ hm
 have bk0:=fun {W':World} (bel:Below W.heap.size W W')=>Below.trod laidOut (by kernel_rfl) (of_decide_eq_true (by kernel_rfl)) h0 bel lt0
 obtain⟨⟨⟨l0_0,⟨l0_1,⟨a0_2,a0_3⟩⟩⟩,⟨a0_4,⟨a0_5,⟨a0_6,a0_7⟩⟩⟩⟩,cs0,hv0,hK0,⟨⟨o0_0,⟨o0_1,⟨o0_2,o0_3⟩⟩⟩,⟨o0_4,⟨o0_5,⟨o0_6,o0_7⟩⟩⟩⟩⟩:=arg_struct Try.underlying58 (tells_struct Try.underlying58 (by kernel_rfl) (fs_cons rfl (tells_struct Try.underlying40 (by kernel_rfl) (fs_cons rfl (tellsL Try.underlying38 (by kernel_rfl) tells96) (fs_cons rfl (tellsL Try.underlying22 (by kernel_rfl) (tellsB Try.underlying5 (by kernel_rfl))) (fs_cons rfl (tellsI Try.underlying3 (by kernel_rfl)) (fs_one rfl (tellsI Try.underlying3 (by kernel_rfl))))))) (fs_cons rfl (tellsS Try.underlying9 (by kernel_rfl)) (fs_cons rfl (tellsS Try.underlying9 (by kernel_rfl)) (fs_cons rfl (tellsT Try.underlying4 (by kernel_rfl)) (fs_one rfl (tellsT Try.underlying4 (by kernel_rfl)))))))) (hval 0 58 v0 rfl rfl) h0
 obtain⟨_,_,rfl,⟨_,_,rfl,⟨A0_0,c0_0,rfl,hl0_0,hC0_0⟩,⟨_,_,rfl,⟨A0_1,c0_1,rfl,hl0_1,hC0_1⟩,⟨_,_,rfl,rfl,rfl⟩⟩⟩,⟨_,_,rfl,rfl,⟨_,_,rfl,rfl,⟨_,_,rfl,rfl,rfl⟩⟩⟩⟩:=hK0
 simp only[List.cons_append,List.nil_append] at hv0
 subst hv0
 obtain⟨k,hk⟩:=Pure.FnExactGoodAttack l0_0 l0_1 a0_2 a0_3 a0_4 a0_5 a0_6 a0_7 o0_0 o0_1 o0_2 o0_3 o0_4 o0_5
 refine(qqk.calls k _ _ l0_0 _ _ l0_1 a0_2 a0_3 a0_4 a0_5 a0_6 a0_7 true W hC0_0 hl0_0 hC0_1 hl0_1 hk).mono fun e W' hpost=>?_
 obtain⟨he,hb⟩:=hpost
 have bel:Below W.heap.size W W':=hb
 subst he
 exact⟨_,rfl,_,_,_,[],_,[],hW',trodAll_mk1 (shut_bool Try.underlying4 _),(trodAll_cons_mk (bk0 bel) trodAll_mk0),rfl,bel.frame _,fun h=>by cases h⟩
theorem over:Rows.fnExactGoodAttackRow.holds Try.pinned (OpenSpec.ofChange Rows.fnExactGoodAttackSpec) :=
 OpenClaim.holds_of_wide 7 Try.f7 rfl rfl rfl rfl rfl rfl rfl ⟨rfl,rfl,rfl,rfl,rfl⟩ rfl rfl rfl rfl rfl (by kernel_rfl) Try.func7 (by kernel_rfl)
  (of_decide_eq_true (by kernel_rfl)) (by unfold Func.isWrapper;first|(rw[if_pos (by decide +kernel)];kernel_rfl)|(rw[if_neg (by decide +kernel)];exact⟨rfl,rfl⟩))
  (fun os started H enc _=>lifted os started H enc)
theorem proved:Rows.FnExactGoodAttackSaid:=over
#print axioms proved
end Go.Proofs.Ytakocdkcfjkmdaa.fnExactGoodAttack
namespace Go.Proofs.Ytakocdkcfjkmdaa
theorem fnExactGoodAttack_holds:Rows.FnExactGoodAttackSaid:=fnExactGoodAttack.proved
end Go.Proofs.Ytakocdkcfjkmdaa
