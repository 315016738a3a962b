/-
  DERIVED. GIVEN WITH THE SEED: THE CARDS: each row of YtjapmlfjlojbeaaDoorRows.lean that lists a variable, with what it lists TIED to the program's text (the seventh form; the later family's looks); each row that meets fmt, with fmt's text TOLD by the authors' own Lean function (tested against real Go, not proved from fmt's source: count such statements apart). THE CARD IS WHAT COUNTS. Prove the row's statement (the work); the ties are given (YtjapmlfjlojbeaaDoorTie.lean); close each card by the builder's one call (the guide's Derived/Test/ToyasCard.lean, 'card_holds'). Laid BY PROGRAM, IN A SANDBOX (cutbox-door.mjs). By AI agents, Wed Nov 11 2026. No macro, syntax, notation, axiom, sorry.
-/
import Derived.Test.YtjapmlfjlojbeaaDoorRows
import GoSem.ClaimSeven
namespace Go.Proofs.YtjapmlfjlojbeaaDoor
namespace Rows

/-- THE TIED CARD OF 'doorkeeperlaw22.AclMatches'. -/
def aclMatchesCard : Claim7 := { stood := { row := aclMatchesRow, standIns := [], harness := (true, "a91ba2a43eb55a3d2a741b1258f212b481ad93983ceaae8ddafc301cdfb20354"), looks := false }, kinds := [], alts := [], laidByText := true, laidKinds := [.widerDeep], laidTests := true, laidLooks := .later }
def AclMatchesCardSaid : Prop := Claim7.holds Tryd.pinned (.plain (OpenSpec.ofChange aclMatchesSpec)) aclMatchesCard

/-- THE TIED CARD OF 'doorkeeperlaw22.AclGrants'. -/
def aclGrantsCard : Claim7 := { stood := { row := aclGrantsRow, standIns := [], harness := (true, "a91ba2a43eb55a3d2a741b1258f212b481ad93983ceaae8ddafc301cdfb20354"), looks := false }, kinds := [], alts := [], laidByText := true, laidKinds := [.widerDeep], laidTests := true, laidLooks := .later }
def AclGrantsCardSaid : Prop := Claim7.holds Tryd.pinned (.plain (OpenSpec.ofChange aclGrantsSpec)) aclGrantsCard

/-- THE TIED CARD OF 'doorkeeperlaw22.AclOwn'. -/
def aclOwnCard : Claim7 := { stood := { row := aclOwnRow, standIns := [], harness := (true, "a91ba2a43eb55a3d2a741b1258f212b481ad93983ceaae8ddafc301cdfb20354"), looks := false }, kinds := [], alts := [], laidByText := true, laidKinds := [.widerDeep], laidTests := true, laidLooks := .later }
def AclOwnCardSaid : Prop := Claim7.holds Tryd.pinned (.plain (OpenSpec.ofChange aclOwnSpec)) aclOwnCard

/-- THE TIED CARD OF 'doorkeeperlaw22.AclEveryone'. -/
def aclEveryoneCard : Claim7 := { stood := { row := aclEveryoneRow, standIns := [], harness := (true, "a91ba2a43eb55a3d2a741b1258f212b481ad93983ceaae8ddafc301cdfb20354"), looks := false }, kinds := [], alts := [], laidByText := true, laidKinds := [.widerDeep], laidTests := true, laidLooks := .later }
def AclEveryoneCardSaid : Prop := Claim7.holds Tryd.pinned (.plain (OpenSpec.ofChange aclEveryoneSpec)) aclEveryoneCard

/-- THE TIED CARD OF 'doorkeeperlaw22.AclParents'. -/
def aclParentsCard : Claim7 := { stood := { row := aclParentsRow, standIns := [], harness := (true, "a91ba2a43eb55a3d2a741b1258f212b481ad93983ceaae8ddafc301cdfb20354"), looks := false }, kinds := [], alts := [], laidByText := true, laidKinds := [.widerDeep], laidTests := true, laidLooks := .later }
def AclParentsCardSaid : Prop := Claim7.holds Tryd.pinned (.plain (OpenSpec.ofChange aclParentsSpec)) aclParentsCard

/-- THE TIED CARD OF 'doorkeeperlaw23.DecideMatchesReference'. -/
def decideMatchesReferenceCard : Claim7 := { stood := { row := decideMatchesReferenceRow, standIns := [], harness := (true, "a91ba2a43eb55a3d2a741b1258f212b481ad93983ceaae8ddafc301cdfb20354"), looks := false }, kinds := [], alts := [], laidByText := true, laidKinds := [.widerDeep, .data], laidTests := true, laidLooks := .later }
def DecideMatchesReferenceCardSaid : Prop := Claim7.holds Tryd.pinned (.plain (OpenSpec.ofChange decideMatchesReferenceSpec)) decideMatchesReferenceCard

/-- THE TIED CARD OF 'doorkeeperlaw23.DecidePaths'. -/
def decidePathsCard : Claim7 := { stood := { row := decidePathsRow, standIns := [], harness := (true, "a91ba2a43eb55a3d2a741b1258f212b481ad93983ceaae8ddafc301cdfb20354"), looks := false }, kinds := [], alts := [], laidByText := true, laidKinds := [.widerDeep, .data], laidTests := true, laidLooks := .later }
def DecidePathsCardSaid : Prop := Claim7.holds Tryd.pinned (.plain (OpenSpec.ofChange decidePathsSpec)) decidePathsCard

/-- THE TIED CARD OF 'doorkeeperlaw23.DecideMethods'. -/
def decideMethodsCard : Claim7 := { stood := { row := decideMethodsRow, standIns := [], harness := (true, "a91ba2a43eb55a3d2a741b1258f212b481ad93983ceaae8ddafc301cdfb20354"), looks := false }, kinds := [], alts := [], laidByText := true, laidKinds := [.widerDeep, .data], laidTests := true, laidLooks := .later }
def DecideMethodsCardSaid : Prop := Claim7.holds Tryd.pinned (.plain (OpenSpec.ofChange decideMethodsSpec)) decideMethodsCard

/-- THE TIED CARD OF 'doorkeeperlaw23.DecideMore'. -/
def decideMoreCard : Claim7 := { stood := { row := decideMoreRow, standIns := [], harness := (true, "a91ba2a43eb55a3d2a741b1258f212b481ad93983ceaae8ddafc301cdfb20354"), looks := false }, kinds := [], alts := [], laidByText := true, laidKinds := [.widerDeep, .data], laidTests := true, laidLooks := .later }
def DecideMoreCardSaid : Prop := Claim7.holds Tryd.pinned (.plain (OpenSpec.ofChange decideMoreSpec)) decideMoreCard

/-- THE SECOND FORM's CARD OF 'doorkeeperlaw22.AclMatches'. -/
def aclMatchesUptoCard : Claim7 := { stood := { row := aclMatchesUptoRow, standIns := [], harness := (true, "a91ba2a43eb55a3d2a741b1258f212b481ad93983ceaae8ddafc301cdfb20354"), looks := false }, kinds := [], alts := [], laidByText := true, laidKinds := [.widerDeep], laidTests := true, laidLooks := .later }
def AclMatchesUptoCardSaid : Prop := Claim7.holds Tryd.pinned (.plain (OpenSpec.upto aclMatchesSpec)) aclMatchesUptoCard

/-- THE SECOND FORM's CARD OF 'doorkeeperlaw22.AclGrants'. -/
def aclGrantsUptoCard : Claim7 := { stood := { row := aclGrantsUptoRow, standIns := [], harness := (true, "a91ba2a43eb55a3d2a741b1258f212b481ad93983ceaae8ddafc301cdfb20354"), looks := false }, kinds := [], alts := [], laidByText := true, laidKinds := [.widerDeep], laidTests := true, laidLooks := .later }
def AclGrantsUptoCardSaid : Prop := Claim7.holds Tryd.pinned (.plain (OpenSpec.upto aclGrantsSpec)) aclGrantsUptoCard

/-- THE SECOND FORM's CARD OF 'doorkeeperlaw22.AclOwn'. -/
def aclOwnUptoCard : Claim7 := { stood := { row := aclOwnUptoRow, standIns := [], harness := (true, "a91ba2a43eb55a3d2a741b1258f212b481ad93983ceaae8ddafc301cdfb20354"), looks := false }, kinds := [], alts := [], laidByText := true, laidKinds := [.widerDeep], laidTests := true, laidLooks := .later }
def AclOwnUptoCardSaid : Prop := Claim7.holds Tryd.pinned (.plain (OpenSpec.upto aclOwnSpec)) aclOwnUptoCard

/-- THE SECOND FORM's CARD OF 'doorkeeperlaw22.AclEveryone'. -/
def aclEveryoneUptoCard : Claim7 := { stood := { row := aclEveryoneUptoRow, standIns := [], harness := (true, "a91ba2a43eb55a3d2a741b1258f212b481ad93983ceaae8ddafc301cdfb20354"), looks := false }, kinds := [], alts := [], laidByText := true, laidKinds := [.widerDeep], laidTests := true, laidLooks := .later }
def AclEveryoneUptoCardSaid : Prop := Claim7.holds Tryd.pinned (.plain (OpenSpec.upto aclEveryoneSpec)) aclEveryoneUptoCard

/-- THE SECOND FORM's CARD OF 'doorkeeperlaw22.AclParents'. -/
def aclParentsUptoCard : Claim7 := { stood := { row := aclParentsUptoRow, standIns := [], harness := (true, "a91ba2a43eb55a3d2a741b1258f212b481ad93983ceaae8ddafc301cdfb20354"), looks := false }, kinds := [], alts := [], laidByText := true, laidKinds := [.widerDeep], laidTests := true, laidLooks := .later }
def AclParentsUptoCardSaid : Prop := Claim7.holds Tryd.pinned (.plain (OpenSpec.upto aclParentsSpec)) aclParentsUptoCard

/-- THE SECOND FORM's CARD OF 'doorkeeperlaw23.DecideMatchesReference'. -/
def decideMatchesReferenceUptoCard : Claim7 := { stood := { row := decideMatchesReferenceUptoRow, standIns := [], harness := (true, "a91ba2a43eb55a3d2a741b1258f212b481ad93983ceaae8ddafc301cdfb20354"), looks := false }, kinds := [], alts := [], laidByText := true, laidKinds := [.widerDeep, .data], laidTests := true, laidLooks := .later }
def DecideMatchesReferenceUptoCardSaid : Prop := Claim7.holds Tryd.pinned (.plain (OpenSpec.upto decideMatchesReferenceSpec)) decideMatchesReferenceUptoCard

/-- THE SECOND FORM's CARD OF 'doorkeeperlaw23.DecidePaths'. -/
def decidePathsUptoCard : Claim7 := { stood := { row := decidePathsUptoRow, standIns := [], harness := (true, "a91ba2a43eb55a3d2a741b1258f212b481ad93983ceaae8ddafc301cdfb20354"), looks := false }, kinds := [], alts := [], laidByText := true, laidKinds := [.widerDeep, .data], laidTests := true, laidLooks := .later }
def DecidePathsUptoCardSaid : Prop := Claim7.holds Tryd.pinned (.plain (OpenSpec.upto decidePathsSpec)) decidePathsUptoCard

/-- THE SECOND FORM's CARD OF 'doorkeeperlaw23.DecideMethods'. -/
def decideMethodsUptoCard : Claim7 := { stood := { row := decideMethodsUptoRow, standIns := [], harness := (true, "a91ba2a43eb55a3d2a741b1258f212b481ad93983ceaae8ddafc301cdfb20354"), looks := false }, kinds := [], alts := [], laidByText := true, laidKinds := [.widerDeep, .data], laidTests := true, laidLooks := .later }
def DecideMethodsUptoCardSaid : Prop := Claim7.holds Tryd.pinned (.plain (OpenSpec.upto decideMethodsSpec)) decideMethodsUptoCard

/-- THE SECOND FORM's CARD OF 'doorkeeperlaw23.DecideMore'. -/
def decideMoreUptoCard : Claim7 := { stood := { row := decideMoreUptoRow, standIns := [], harness := (true, "a91ba2a43eb55a3d2a741b1258f212b481ad93983ceaae8ddafc301cdfb20354"), looks := false }, kinds := [], alts := [], laidByText := true, laidKinds := [.widerDeep, .data], laidTests := true, laidLooks := .later }
def DecideMoreUptoCardSaid : Prop := Claim7.holds Tryd.pinned (.plain (OpenSpec.upto decideMoreSpec)) decideMoreUptoCard
end Rows
end Go.Proofs.YtjapmlfjlojbeaaDoor
