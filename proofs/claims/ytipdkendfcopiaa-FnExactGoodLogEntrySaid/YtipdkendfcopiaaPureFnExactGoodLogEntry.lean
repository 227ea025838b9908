/- The law FnExactGoodLogEntry, its plain part: the program's and the reference's answers are one for every entry, and the entry reads as before. -/
import Derived.Test.YtipdkendfcopiaaStFnExactGoodLogEntry
import Derived.Test.YtipdkendfcopiaaPentry
namespace Go.Proofs.Ytipdkendfcopiaa.Pure
open Go.RowKit Go.Proofs.Ytipdkendfcopiaa.Read Go.Proofs.YtipdkendfcopiaaW.PrintWords Go.Proofs.Ytipdkendfcopiaa.Pr
theorem FnExactGoodLogEntry : laws_FnExactGoodLogEntry.Pure := by
  intro t who what salt cover h0 h1 h2 h3 h4
  obtain ⟨r, hr, hsmall⟩ := szLogEntry_small t who what salt cover h1 h2 h3 h4
  by_cases hneg : r < 0
  · exact ⟨0, by simp only [laws_FnExactGoodLogEntry.f, hr, Option.bind_some, if_pos hneg]⟩
  obtain ⟨s1, s2, s3, s4⟩ := hsmall hneg
  have hto := toLogEntry_ev t who what salt cover s3 s4
  have hspec : Ev (fun k => spec_GoodLogEntry.f k t who what salt cover) (goodEntry t who what salt cover) := ⟨_, fun k hk => specGood_eq t who what salt cover h1 h2 k hk⟩
  have himpl : Ev (fun k => impl_GoodLogEntry.f k t who what salt cover) (goodEntry t who what salt cover) := ⟨_, fun k hk => implGood_eq t who what salt cover h1 h2 k hk⟩
  apply Ev.rounds
  simp only [laws_FnExactGoodLogEntry.f, hr, Option.bind_some, if_neg hneg]
  refine Ev.bind hto ?_
  dsimp only
  refine Ev.bind hspec ?_
  refine Ev.bind hto ?_
  dsimp only
  refine Ev.bind himpl ?_
  simp only [bne_self_eq_false, Bool.false_eq_true, if_false]
  refine Ev.bind hto ?_
  dsimp only
  refine Ev.bind (eqLogEntry_refl t who what salt cover s3 s4) ?_
  exact Ev.now _
end Go.Proofs.Ytipdkendfcopiaa.Pure
