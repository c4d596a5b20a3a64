/- It is proved that the law TimelineScores returns true for every input: Starts, Contexts, HeldInto, Spans and Notes of any small valid score agree with the definition. Conditions: none. -/
import Derived.Test.YtnmohbeakccnkaaGreatA11
set_option linter.all false
set_option maxRecDepth 512
namespace Go.Proofs.YtnmohbeakccnkaaGreat
open Go.Hm
theorem V2{n:Int}(h:(Lit.int .i64 n).wf=true):iO n:=by
 unfold Lit.wf at h;simp only[Bool.and_eq_true,decide_eq_true_eq]at h;exact dt h.1 h.2
theorem timelineScores_said:Rows.TimelineScoresSaid:=
 TZ fun cs i aC K4 w1 w2=>by
  obtain⟨s,rfl,hw⟩:=ae.dec K4;exact Y7 s i aC hw (V2 w2)
end Go.Proofs.YtnmohbeakccnkaaGreat
#print axioms Go.Proofs.YtnmohbeakccnkaaGreat.timelineScores_said
