/- Lemmas and walks that this claim needs, in one text out of several; each states its own conditions. -/
import Derived.Test.YtgjahnomafpnfaaGreatDoorTie
import Derived.Test.YtgjahnomafpnfaaGreatDoorCards
import Derived.SevenTiedAt
set_option linter.unusedVariables false
set_option linter.unusedSimpArgs false
/- ALONE: the closed facts of the row of the law PostBooks, each checked by itself. -/
namespace Go.Proofs.YtgjahnomafpnfaaGreatDoor
theorem postBooks_and {a b : Bool} (h1 : a = true) (h2 : b = true) : (a && b) = true := by rw [h1, h2]; rfl
set_option maxHeartbeats 4000000 in
theorem postBooks_facts : joinedFacts Tryz.pinned.checked.prog 8 Tryz.f8 Rows.postBooksSpec Rows.postBooksRow = true := by
  unfold joinedFacts
  repeat' (with_reducible refine postBooks_and ?_ ?_)
  all_goals (as_aux_lemma => kernel_rfl)
end Go.Proofs.YtgjahnomafpnfaaGreatDoor
