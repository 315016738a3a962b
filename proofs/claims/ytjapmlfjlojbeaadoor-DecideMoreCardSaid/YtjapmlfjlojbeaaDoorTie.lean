/-
  DERIVED. GIVEN WITH THE SEED: THE PROGRAM's TIES (one call each: nine closed facts by the kernel) AND EACH ROW's TIE, after the 31st guide's Derived/Test/Toyas{Tie, Card}.lean. No idea stands in it: it is a product of the set-up. Laid BY PROGRAM, IN A SANDBOX (cutbox-door.mjs). By AI agents, Wed Nov 11 2026. No macro, syntax, notation, axiom, sorry.
-/
import Derived.Test.YtjapmlfjlojbeaaDoorRows
import Derived.LaidByTextLater
import Derived.SevenTiedAt
import Derived.LaidSub
import Derived.LaidOnce
namespace Go.Proofs.YtjapmlfjlojbeaaDoor
open Go
set_option maxRecDepth 100000
theorem seatTie1 : Tryd.prog.laidByTextLater [("doorkeeper/reqline.others", Rows.laid_doorkeeper_reqline_others), ("doorkeeper/decide.names", Rows.laid_doorkeeper_decide_names)] [.widerDeep, .data] true :=
  Program.laidByTextLater_by_one 19 8 7 (by kernel_rfl) (by kernel_rfl) (by kernel_rfl) (by kernel_rfl) (by kernel_rfl) (by kernel_rfl) (fun _ _ => by kernel_rfl)
theorem noOwnUnsafe : Tryd.pinned.checked.prog.headLifts.contains "ownunsafe" = false := by kernel_rfl
theorem tie : Tryd.prog.laidByTextLater [("doorkeeper/reqline.others", Rows.laid_doorkeeper_reqline_others)] [.widerDeep] true :=
  Program.laidByTextLater.sub seatTie1 ["doorkeeper/reqline.others"] (by kernel_rfl) (by kernel_rfl)
theorem aclMatches_row_tie : Rows.aclMatchesRow.laidByTextAt .later Tryd.pinned [.widerDeep] true :=
  OpenClaim.laidByTextAt_later rfl rfl tie noOwnUnsafe
theorem aclGrants_row_tie : Rows.aclGrantsRow.laidByTextAt .later Tryd.pinned [.widerDeep] true :=
  OpenClaim.laidByTextAt_later rfl rfl tie noOwnUnsafe
theorem aclOwn_row_tie : Rows.aclOwnRow.laidByTextAt .later Tryd.pinned [.widerDeep] true :=
  OpenClaim.laidByTextAt_later rfl rfl tie noOwnUnsafe
theorem aclEveryone_row_tie : Rows.aclEveryoneRow.laidByTextAt .later Tryd.pinned [.widerDeep] true :=
  OpenClaim.laidByTextAt_later rfl rfl tie noOwnUnsafe
theorem aclParents_row_tie : Rows.aclParentsRow.laidByTextAt .later Tryd.pinned [.widerDeep] true :=
  OpenClaim.laidByTextAt_later rfl rfl tie noOwnUnsafe
theorem tie2 : Tryd.prog.laidByTextLater [("doorkeeper/reqline.others", Rows.laid_doorkeeper_reqline_others), ("doorkeeper/decide.names", Rows.laid_doorkeeper_decide_names)] [.widerDeep, .data] true :=
  Program.laidByTextLater.sub seatTie1 ["doorkeeper/reqline.others", "doorkeeper/decide.names"] (by kernel_rfl) (by kernel_rfl)
theorem decideMatchesReference_row_tie : Rows.decideMatchesReferenceRow.laidByTextAt .later Tryd.pinned [.widerDeep, .data] true :=
  OpenClaim.laidByTextAt_later rfl rfl tie2 noOwnUnsafe
theorem decidePaths_row_tie : Rows.decidePathsRow.laidByTextAt .later Tryd.pinned [.widerDeep, .data] true :=
  OpenClaim.laidByTextAt_later rfl rfl tie2 noOwnUnsafe
theorem decideMethods_row_tie : Rows.decideMethodsRow.laidByTextAt .later Tryd.pinned [.widerDeep, .data] true :=
  OpenClaim.laidByTextAt_later rfl rfl tie2 noOwnUnsafe
theorem decideMore_row_tie : Rows.decideMoreRow.laidByTextAt .later Tryd.pinned [.widerDeep, .data] true :=
  OpenClaim.laidByTextAt_later rfl rfl tie2 noOwnUnsafe
theorem aclMatchesUpto_row_tie : Rows.aclMatchesUptoRow.laidByTextAt .later Tryd.pinned [.widerDeep] true :=
  OpenClaim.laidByTextAt_later rfl rfl tie noOwnUnsafe
theorem aclGrantsUpto_row_tie : Rows.aclGrantsUptoRow.laidByTextAt .later Tryd.pinned [.widerDeep] true :=
  OpenClaim.laidByTextAt_later rfl rfl tie noOwnUnsafe
theorem aclOwnUpto_row_tie : Rows.aclOwnUptoRow.laidByTextAt .later Tryd.pinned [.widerDeep] true :=
  OpenClaim.laidByTextAt_later rfl rfl tie noOwnUnsafe
theorem aclEveryoneUpto_row_tie : Rows.aclEveryoneUptoRow.laidByTextAt .later Tryd.pinned [.widerDeep] true :=
  OpenClaim.laidByTextAt_later rfl rfl tie noOwnUnsafe
theorem aclParentsUpto_row_tie : Rows.aclParentsUptoRow.laidByTextAt .later Tryd.pinned [.widerDeep] true :=
  OpenClaim.laidByTextAt_later rfl rfl tie noOwnUnsafe
theorem decideMatchesReferenceUpto_row_tie : Rows.decideMatchesReferenceUptoRow.laidByTextAt .later Tryd.pinned [.widerDeep, .data] true :=
  OpenClaim.laidByTextAt_later rfl rfl tie2 noOwnUnsafe
theorem decidePathsUpto_row_tie : Rows.decidePathsUptoRow.laidByTextAt .later Tryd.pinned [.widerDeep, .data] true :=
  OpenClaim.laidByTextAt_later rfl rfl tie2 noOwnUnsafe
theorem decideMethodsUpto_row_tie : Rows.decideMethodsUptoRow.laidByTextAt .later Tryd.pinned [.widerDeep, .data] true :=
  OpenClaim.laidByTextAt_later rfl rfl tie2 noOwnUnsafe
theorem decideMoreUpto_row_tie : Rows.decideMoreUptoRow.laidByTextAt .later Tryd.pinned [.widerDeep, .data] true :=
  OpenClaim.laidByTextAt_later rfl rfl tie2 noOwnUnsafe
end Go.Proofs.YtjapmlfjlojbeaaDoor
