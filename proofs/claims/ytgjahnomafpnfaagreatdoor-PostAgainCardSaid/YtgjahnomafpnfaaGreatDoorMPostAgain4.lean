/- Lemmas and walks that this claim needs, in one text out of several; each states its own conditions. -/
import Derived.Test.YtgjahnomafpnfaaGreatDoorTie
import Derived.Test.YtgjahnomafpnfaaGreatDoorCards
import Derived.SevenTiedAt
set_option linter.unusedVariables false
set_option linter.unusedSimpArgs false
/- ALONE: the closed facts of the row of the law PostAgain, each checked by itself. -/
namespace Go.Proofs.YtgjahnomafpnfaaGreatDoor
theorem postAgain_and {a b : Bool} (h1 : a = true) (h2 : b = true) : (a && b) = true := by rw [h1, h2]; rfl
set_option maxHeartbeats 4000000 in
theorem postAgain_facts : joinedFacts Tryz.pinned.checked.prog 3 Tryz.f3 Rows.postAgainSpec Rows.postAgainRow = true := by
  unfold joinedFacts
  repeat' (with_reducible refine postAgain_and ?_ ?_)
  all_goals (as_aux_lemma => kernel_rfl)
end Go.Proofs.YtgjahnomafpnfaaGreatDoor
