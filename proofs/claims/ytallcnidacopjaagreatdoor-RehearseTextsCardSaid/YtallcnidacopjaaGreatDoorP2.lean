import Derived.Test.YtallcnidacopjaaGreatDoorRows
import Derived.ProofKit
import Derived.JoinedOf
namespace Go.Proofs.YtallcnidacopjaaGreatDoor

set_option maxHeartbeats 8000000 in
set_option maxRecDepth 100000 in
theorem facts : joinedFacts Tryz.prog 3 Tryz.f3 Rows.rehearseTextsSpec Rows.rehearseTextsRow = true := by
  simp only [joinedFacts, Bool.and_eq_true]
  repeat' apply And.intro
  all_goals as_aux_lemma => kernel_rfl
end Go.Proofs.YtallcnidacopjaaGreatDoor
