/-
  NARROWER THAN 'FOR EVERY INPUT', by the rows' own cells (each row's printed sentence says how): AclMatches: laid · AclGrants: laid · AclOwn: laid · AclEveryone: laid · AclParents: laid · DecideMatchesReference: laid · DecidePaths: laid · DecideMethods: laid · DecideMore: laid.
  DERIVED. THE GIVEN ROWS OF THIS SEAT. 9 by the template 'for every input the law returns true; each argument reads behind the call as it read before'; 0 by the template 'total and deterministic' (their statements: YtjapmlfjlojbeaaDoorTotals.lean).
  GIVEN WITH THE SEED: the statements are not yours to turn. If you find one false, say at which input.
  Laid BY PROGRAM, IN A SANDBOX (cutbox-rows.mjs): the forced cells as the released guide's own fill.sh prints them over the translation c6796d333c363f35… (all of the seat's roots in one cut). By AI agents, Wed Nov 11 2026. No macro, syntax, notation, axiom, sorry.
-/
import Derived.Test.YtjapmlfjlojbeaaDoorChecked
import GoSem.Claim
import GoSem.ClaimJoined
import GoSem.ClaimMapViews
import Derived.JoinedTies
import Derived.KernelRfl
namespace Go.Proofs.YtjapmlfjlojbeaaDoor
/- THE CELL 'sum', in the pinned program and in every row, IS THE sha256 OF THE DUMP (.gsa) THAT YtjapmlfjlojbeaaDoorProg.lean LOADS. Nothing in Lean hashes anything: it is a label: what it is worth is what the hold of that sum in a sandbox is worth. -/
noncomputable def Tryd.pinned : Pinned := { name := "ytjapmlfjlojbeaadoor", sum := "c6796d333c363f35ecda5ecce7a38fda214cb69cde4829e53ffeb80d2d0c7624", checked := Tryd.checked }
namespace Rows
def none {H : Type} : Left H := { results := [], args := [] }

/- WHAT THE LISTED PACKAGE-LEVEL VARIABLES READ AS WHEN THE CALL BEGINS. Each datum BY PROGRAM (the guide's laid-datum.mjs) off the statement by which the dump's own 'gosem.cut.vars' lays the variable. In a bare row this is a premise. The card (YtjapmlfjlojbeaaDoorCards.lean) ties it to the program's text. -/
def laid_doorkeeper_reqline_others {H : Type} : DataW H := .agg [.lit (.string [80, 79, 83, 84]), .lit (.string [80, 85, 84]), .lit (.string [68, 69, 76, 69, 84, 69]), .lit (.string [80, 65, 84, 67, 72]), .lit (.string [84, 82, 65, 67, 69]), .lit (.string [67, 79, 78, 78, 69, 67, 84])]
def laid_doorkeeper_decide_names {H : Type} : DataW H := .agg [.lit (.string []), .lit (.string [97, 108, 108, 111, 119]), .lit (.string [99, 104, 97, 108, 108, 101, 110, 103, 101]), .lit (.string [104, 105, 100, 101]), .lit (.string [109, 101, 116, 104, 111, 100])]

/-- 'doorkeeperlaw22.AclMatches': WHATEVER THE INPUT: true; the input reads as it did. -/
def aclMatchesSpec : ChangeSpec := { name := "aclMatches", fn := fun _ => fun
  | [d1, d2, d3] => { results := [.lit (.bool true)], args := [d1, d2, d3] }
  | _ => none }
def aclMatchesRow : OpenClaim := { program := "ytjapmlfjlojbeaadoor", sum := "c6796d333c363f35ecda5ecce7a38fda214cb69cde4829e53ffeb80d2d0c7624", func := "doorkeeper/doorkeeperlaw22.AclMatches", spec := "aclMatches", unfollowed := true, recurses := true, named := ["doorkeeper/reqline.others"], apart := false, laid := [("doorkeeper/reqline.others", laid_doorkeeper_reqline_others)] }
def AclMatchesSaid : Prop := aclMatchesRow.holds Tryd.pinned (OpenSpec.ofChange aclMatchesSpec)

/-- ITS FALSE NEIGHBOUR: 'it returns false'. Refute it at one input. -/
def aclMatchesWrong : ChangeSpec := { name := "aclMatches", fn := fun _ => fun
  | [d1, d2, d3] => { results := [.lit (.bool false)], args := [d1, d2, d3] }
  | _ => none }
def AclMatchesWrongFalsely : Prop := aclMatchesRow.holds Tryd.pinned (OpenSpec.ofChange aclMatchesWrong)

/-- 'doorkeeperlaw22.AclGrants': WHATEVER THE INPUT: true; the input reads as it did. -/
def aclGrantsSpec : ChangeSpec := { name := "aclGrants", fn := fun _ => fun
  | [d1, d2, d3, d4] => { results := [.lit (.bool true)], args := [d1, d2, d3, d4] }
  | _ => none }
def aclGrantsRow : OpenClaim := { program := "ytjapmlfjlojbeaadoor", sum := "c6796d333c363f35ecda5ecce7a38fda214cb69cde4829e53ffeb80d2d0c7624", func := "doorkeeper/doorkeeperlaw22.AclGrants", spec := "aclGrants", unfollowed := true, recurses := true, named := ["doorkeeper/reqline.others"], apart := false, laid := [("doorkeeper/reqline.others", laid_doorkeeper_reqline_others)] }
def AclGrantsSaid : Prop := aclGrantsRow.holds Tryd.pinned (OpenSpec.ofChange aclGrantsSpec)

/-- ITS FALSE NEIGHBOUR: 'it returns false'. Refute it at one input. -/
def aclGrantsWrong : ChangeSpec := { name := "aclGrants", fn := fun _ => fun
  | [d1, d2, d3, d4] => { results := [.lit (.bool false)], args := [d1, d2, d3, d4] }
  | _ => none }
def AclGrantsWrongFalsely : Prop := aclGrantsRow.holds Tryd.pinned (OpenSpec.ofChange aclGrantsWrong)

/-- 'doorkeeperlaw22.AclOwn': WHATEVER THE INPUT: true; the input reads as it did. -/
def aclOwnSpec : ChangeSpec := { name := "aclOwn", fn := fun _ => fun
  | [d1, d2] => { results := [.lit (.bool true)], args := [d1, d2] }
  | _ => none }
def aclOwnRow : OpenClaim := { program := "ytjapmlfjlojbeaadoor", sum := "c6796d333c363f35ecda5ecce7a38fda214cb69cde4829e53ffeb80d2d0c7624", func := "doorkeeper/doorkeeperlaw22.AclOwn", spec := "aclOwn", unfollowed := true, recurses := true, named := ["doorkeeper/reqline.others"], apart := false, laid := [("doorkeeper/reqline.others", laid_doorkeeper_reqline_others)] }
def AclOwnSaid : Prop := aclOwnRow.holds Tryd.pinned (OpenSpec.ofChange aclOwnSpec)

/-- ITS FALSE NEIGHBOUR: 'it returns false'. Refute it at one input. -/
def aclOwnWrong : ChangeSpec := { name := "aclOwn", fn := fun _ => fun
  | [d1, d2] => { results := [.lit (.bool false)], args := [d1, d2] }
  | _ => none }
def AclOwnWrongFalsely : Prop := aclOwnRow.holds Tryd.pinned (OpenSpec.ofChange aclOwnWrong)

/-- 'doorkeeperlaw22.AclEveryone': WHATEVER THE INPUT: true; the input reads as it did. -/
def aclEveryoneSpec : ChangeSpec := { name := "aclEveryone", fn := fun _ => fun
  | [d1, d2, d3] => { results := [.lit (.bool true)], args := [d1, d2, d3] }
  | _ => none }
def aclEveryoneRow : OpenClaim := { program := "ytjapmlfjlojbeaadoor", sum := "c6796d333c363f35ecda5ecce7a38fda214cb69cde4829e53ffeb80d2d0c7624", func := "doorkeeper/doorkeeperlaw22.AclEveryone", spec := "aclEveryone", unfollowed := true, recurses := true, named := ["doorkeeper/reqline.others"], apart := false, laid := [("doorkeeper/reqline.others", laid_doorkeeper_reqline_others)] }
def AclEveryoneSaid : Prop := aclEveryoneRow.holds Tryd.pinned (OpenSpec.ofChange aclEveryoneSpec)

/-- ITS FALSE NEIGHBOUR: 'it returns false'. Refute it at one input. -/
def aclEveryoneWrong : ChangeSpec := { name := "aclEveryone", fn := fun _ => fun
  | [d1, d2, d3] => { results := [.lit (.bool false)], args := [d1, d2, d3] }
  | _ => none }
def AclEveryoneWrongFalsely : Prop := aclEveryoneRow.holds Tryd.pinned (OpenSpec.ofChange aclEveryoneWrong)

/-- 'doorkeeperlaw22.AclParents': WHATEVER THE INPUT: true; the input reads as it did. -/
def aclParentsSpec : ChangeSpec := { name := "aclParents", fn := fun _ => fun
  | [d1, d2, d3] => { results := [.lit (.bool true)], args := [d1, d2, d3] }
  | _ => none }
def aclParentsRow : OpenClaim := { program := "ytjapmlfjlojbeaadoor", sum := "c6796d333c363f35ecda5ecce7a38fda214cb69cde4829e53ffeb80d2d0c7624", func := "doorkeeper/doorkeeperlaw22.AclParents", spec := "aclParents", unfollowed := true, recurses := true, named := ["doorkeeper/reqline.others"], apart := false, laid := [("doorkeeper/reqline.others", laid_doorkeeper_reqline_others)] }
def AclParentsSaid : Prop := aclParentsRow.holds Tryd.pinned (OpenSpec.ofChange aclParentsSpec)

/-- ITS FALSE NEIGHBOUR: 'it returns false'. Refute it at one input. -/
def aclParentsWrong : ChangeSpec := { name := "aclParents", fn := fun _ => fun
  | [d1, d2, d3] => { results := [.lit (.bool false)], args := [d1, d2, d3] }
  | _ => none }
def AclParentsWrongFalsely : Prop := aclParentsRow.holds Tryd.pinned (OpenSpec.ofChange aclParentsWrong)

/-- 'doorkeeperlaw23.DecideMatchesReference': WHATEVER THE INPUT: true; the input reads as it did. -/
def decideMatchesReferenceSpec : ChangeSpec := { name := "decideMatchesReference", fn := fun _ => fun
  | [d1, d2, d3, d4] => { results := [.lit (.bool true)], args := [d1, d2, d3, d4] }
  | _ => none }
def decideMatchesReferenceRow : OpenClaim := { program := "ytjapmlfjlojbeaadoor", sum := "c6796d333c363f35ecda5ecce7a38fda214cb69cde4829e53ffeb80d2d0c7624", func := "doorkeeper/doorkeeperlaw23.DecideMatchesReference", spec := "decideMatchesReference", unfollowed := true, recurses := true, named := ["doorkeeper/reqline.others", "doorkeeper/decide.names"], apart := false, laid := [("doorkeeper/reqline.others", laid_doorkeeper_reqline_others), ("doorkeeper/decide.names", laid_doorkeeper_decide_names)] }
def DecideMatchesReferenceSaid : Prop := decideMatchesReferenceRow.holds Tryd.pinned (OpenSpec.ofChange decideMatchesReferenceSpec)

/-- ITS FALSE NEIGHBOUR: 'it returns false'. Refute it at one input. -/
def decideMatchesReferenceWrong : ChangeSpec := { name := "decideMatchesReference", fn := fun _ => fun
  | [d1, d2, d3, d4] => { results := [.lit (.bool false)], args := [d1, d2, d3, d4] }
  | _ => none }
def DecideMatchesReferenceWrongFalsely : Prop := decideMatchesReferenceRow.holds Tryd.pinned (OpenSpec.ofChange decideMatchesReferenceWrong)

/-- 'doorkeeperlaw23.DecidePaths': WHATEVER THE INPUT: true; the input reads as it did. -/
def decidePathsSpec : ChangeSpec := { name := "decidePaths", fn := fun _ => fun
  | [d1, d2, d3, d4] => { results := [.lit (.bool true)], args := [d1, d2, d3, d4] }
  | _ => none }
def decidePathsRow : OpenClaim := { program := "ytjapmlfjlojbeaadoor", sum := "c6796d333c363f35ecda5ecce7a38fda214cb69cde4829e53ffeb80d2d0c7624", func := "doorkeeper/doorkeeperlaw23.DecidePaths", spec := "decidePaths", unfollowed := true, recurses := true, named := ["doorkeeper/reqline.others", "doorkeeper/decide.names"], apart := false, laid := [("doorkeeper/reqline.others", laid_doorkeeper_reqline_others), ("doorkeeper/decide.names", laid_doorkeeper_decide_names)] }
def DecidePathsSaid : Prop := decidePathsRow.holds Tryd.pinned (OpenSpec.ofChange decidePathsSpec)

/-- ITS FALSE NEIGHBOUR: 'it returns false'. Refute it at one input. -/
def decidePathsWrong : ChangeSpec := { name := "decidePaths", fn := fun _ => fun
  | [d1, d2, d3, d4] => { results := [.lit (.bool false)], args := [d1, d2, d3, d4] }
  | _ => none }
def DecidePathsWrongFalsely : Prop := decidePathsRow.holds Tryd.pinned (OpenSpec.ofChange decidePathsWrong)

/-- 'doorkeeperlaw23.DecideMethods': WHATEVER THE INPUT: true; the input reads as it did. -/
def decideMethodsSpec : ChangeSpec := { name := "decideMethods", fn := fun _ => fun
  | [d1, d2, d3, d4] => { results := [.lit (.bool true)], args := [d1, d2, d3, d4] }
  | _ => none }
def decideMethodsRow : OpenClaim := { program := "ytjapmlfjlojbeaadoor", sum := "c6796d333c363f35ecda5ecce7a38fda214cb69cde4829e53ffeb80d2d0c7624", func := "doorkeeper/doorkeeperlaw23.DecideMethods", spec := "decideMethods", unfollowed := true, recurses := true, named := ["doorkeeper/reqline.others", "doorkeeper/decide.names"], apart := false, laid := [("doorkeeper/reqline.others", laid_doorkeeper_reqline_others), ("doorkeeper/decide.names", laid_doorkeeper_decide_names)] }
def DecideMethodsSaid : Prop := decideMethodsRow.holds Tryd.pinned (OpenSpec.ofChange decideMethodsSpec)

/-- ITS FALSE NEIGHBOUR: 'it returns false'. Refute it at one input. -/
def decideMethodsWrong : ChangeSpec := { name := "decideMethods", fn := fun _ => fun
  | [d1, d2, d3, d4] => { results := [.lit (.bool false)], args := [d1, d2, d3, d4] }
  | _ => none }
def DecideMethodsWrongFalsely : Prop := decideMethodsRow.holds Tryd.pinned (OpenSpec.ofChange decideMethodsWrong)

/-- 'doorkeeperlaw23.DecideMore': WHATEVER THE INPUT: true; the input reads as it did. -/
def decideMoreSpec : ChangeSpec := { name := "decideMore", fn := fun _ => fun
  | [d1, d2, d3, d4] => { results := [.lit (.bool true)], args := [d1, d2, d3, d4] }
  | _ => none }
def decideMoreRow : OpenClaim := { program := "ytjapmlfjlojbeaadoor", sum := "c6796d333c363f35ecda5ecce7a38fda214cb69cde4829e53ffeb80d2d0c7624", func := "doorkeeper/doorkeeperlaw23.DecideMore", spec := "decideMore", unfollowed := true, recurses := true, named := ["doorkeeper/reqline.others", "doorkeeper/decide.names"], apart := false, laid := [("doorkeeper/reqline.others", laid_doorkeeper_reqline_others), ("doorkeeper/decide.names", laid_doorkeeper_decide_names)] }
def DecideMoreSaid : Prop := decideMoreRow.holds Tryd.pinned (OpenSpec.ofChange decideMoreSpec)

/-- ITS FALSE NEIGHBOUR: 'it returns false'. Refute it at one input. -/
def decideMoreWrong : ChangeSpec := { name := "decideMore", fn := fun _ => fun
  | [d1, d2, d3, d4] => { results := [.lit (.bool false)], args := [d1, d2, d3, d4] }
  | _ => none }
def DecideMoreWrongFalsely : Prop := decideMoreRow.holds Tryd.pinned (OpenSpec.ofChange decideMoreWrong)

/- THE SECOND FORM. 'bulk': how many values and letters a reading holds, each counted each time it is reached (what is shared counts as often as it is met; a slice's spare places count too). A statement '..UptoSaid' is the law's where the arguments, and the package variables that the reading takes, are together of bulk at most 1048576: NARROWER than '..Said'. Prove '..Said' where nothing that the law and all that it calls make is longer than what came in: it says more and counts as full. Else prove '..UptoSaid'. A law counts once. -/
mutual
def uptoBulk {H : Type} : DataW H → Nat
  | .lit (.string bytes) => bytes.length + 1
  | .lit _ => 1
  | .nil => 1
  | .ptr d => uptoBulk d + 1
  | .slice elems spare => uptoBulkAll elems + uptoBulkAll spare + 1
  | .agg parts => uptoBulkAll parts + 1
  | .iface _ d => uptoBulk d + 1
  | .map entries => uptoBulkEntries entries + 1
  | .held _ => 1
def uptoBulkAll {H : Type} : List (DataW H) → Nat
  | [] => 0
  | d :: r => uptoBulk d + uptoBulkAll r
def uptoBulkEntries {H : Type} : List (Lit × DataW H) → Nat
  | [] => 0
  | x :: r => uptoBulkEntry x + uptoBulkEntries r
def uptoBulkEntry {H : Type} : Lit × DataW H → Nat
  | (.string bytes, d) => bytes.length + uptoBulk d + 1
  | (_, d) => uptoBulk d + 1
 end
def uptoSmall : (H : Type) → List (DataW H) → Bool := fun _ ds => decide (uptoBulkAll ds ≤ 1048576)
def OpenSpec.upto (s : _root_.Go.ChangeSpec) : _root_.Go.OpenSpec := { _root_.Go.OpenSpec.ofChange s with cond := some uptoSmall }

/-- 'doorkeeperlaw22.AclMatches', WHERE WHAT IT READS IS OF BULK AT MOST 1048576: true; the input reads as it did. -/
def aclMatchesUptoRow : OpenClaim := { program := "ytjapmlfjlojbeaadoor", sum := "c6796d333c363f35ecda5ecce7a38fda214cb69cde4829e53ffeb80d2d0c7624", func := "doorkeeper/doorkeeperlaw22.AclMatches", spec := "aclMatches", unfollowed := true, recurses := true, named := ["doorkeeper/reqline.others"], apart := false, laid := [("doorkeeper/reqline.others", laid_doorkeeper_reqline_others)], narrowed := true }
def AclMatchesUptoSaid : Prop := aclMatchesUptoRow.holds Tryd.pinned (OpenSpec.upto aclMatchesSpec)

/-- 'doorkeeperlaw22.AclGrants', WHERE WHAT IT READS IS OF BULK AT MOST 1048576: true; the input reads as it did. -/
def aclGrantsUptoRow : OpenClaim := { program := "ytjapmlfjlojbeaadoor", sum := "c6796d333c363f35ecda5ecce7a38fda214cb69cde4829e53ffeb80d2d0c7624", func := "doorkeeper/doorkeeperlaw22.AclGrants", spec := "aclGrants", unfollowed := true, recurses := true, named := ["doorkeeper/reqline.others"], apart := false, laid := [("doorkeeper/reqline.others", laid_doorkeeper_reqline_others)], narrowed := true }
def AclGrantsUptoSaid : Prop := aclGrantsUptoRow.holds Tryd.pinned (OpenSpec.upto aclGrantsSpec)

/-- 'doorkeeperlaw22.AclOwn', WHERE WHAT IT READS IS OF BULK AT MOST 1048576: true; the input reads as it did. -/
def aclOwnUptoRow : OpenClaim := { program := "ytjapmlfjlojbeaadoor", sum := "c6796d333c363f35ecda5ecce7a38fda214cb69cde4829e53ffeb80d2d0c7624", func := "doorkeeper/doorkeeperlaw22.AclOwn", spec := "aclOwn", unfollowed := true, recurses := true, named := ["doorkeeper/reqline.others"], apart := false, laid := [("doorkeeper/reqline.others", laid_doorkeeper_reqline_others)], narrowed := true }
def AclOwnUptoSaid : Prop := aclOwnUptoRow.holds Tryd.pinned (OpenSpec.upto aclOwnSpec)

/-- 'doorkeeperlaw22.AclEveryone', WHERE WHAT IT READS IS OF BULK AT MOST 1048576: true; the input reads as it did. -/
def aclEveryoneUptoRow : OpenClaim := { program := "ytjapmlfjlojbeaadoor", sum := "c6796d333c363f35ecda5ecce7a38fda214cb69cde4829e53ffeb80d2d0c7624", func := "doorkeeper/doorkeeperlaw22.AclEveryone", spec := "aclEveryone", unfollowed := true, recurses := true, named := ["doorkeeper/reqline.others"], apart := false, laid := [("doorkeeper/reqline.others", laid_doorkeeper_reqline_others)], narrowed := true }
def AclEveryoneUptoSaid : Prop := aclEveryoneUptoRow.holds Tryd.pinned (OpenSpec.upto aclEveryoneSpec)

/-- 'doorkeeperlaw22.AclParents', WHERE WHAT IT READS IS OF BULK AT MOST 1048576: true; the input reads as it did. -/
def aclParentsUptoRow : OpenClaim := { program := "ytjapmlfjlojbeaadoor", sum := "c6796d333c363f35ecda5ecce7a38fda214cb69cde4829e53ffeb80d2d0c7624", func := "doorkeeper/doorkeeperlaw22.AclParents", spec := "aclParents", unfollowed := true, recurses := true, named := ["doorkeeper/reqline.others"], apart := false, laid := [("doorkeeper/reqline.others", laid_doorkeeper_reqline_others)], narrowed := true }
def AclParentsUptoSaid : Prop := aclParentsUptoRow.holds Tryd.pinned (OpenSpec.upto aclParentsSpec)

/-- 'doorkeeperlaw23.DecideMatchesReference', WHERE WHAT IT READS IS OF BULK AT MOST 1048576: true; the input reads as it did. -/
def decideMatchesReferenceUptoRow : OpenClaim := { program := "ytjapmlfjlojbeaadoor", sum := "c6796d333c363f35ecda5ecce7a38fda214cb69cde4829e53ffeb80d2d0c7624", func := "doorkeeper/doorkeeperlaw23.DecideMatchesReference", spec := "decideMatchesReference", unfollowed := true, recurses := true, named := ["doorkeeper/reqline.others", "doorkeeper/decide.names"], apart := false, laid := [("doorkeeper/reqline.others", laid_doorkeeper_reqline_others), ("doorkeeper/decide.names", laid_doorkeeper_decide_names)], narrowed := true }
def DecideMatchesReferenceUptoSaid : Prop := decideMatchesReferenceUptoRow.holds Tryd.pinned (OpenSpec.upto decideMatchesReferenceSpec)

/-- 'doorkeeperlaw23.DecidePaths', WHERE WHAT IT READS IS OF BULK AT MOST 1048576: true; the input reads as it did. -/
def decidePathsUptoRow : OpenClaim := { program := "ytjapmlfjlojbeaadoor", sum := "c6796d333c363f35ecda5ecce7a38fda214cb69cde4829e53ffeb80d2d0c7624", func := "doorkeeper/doorkeeperlaw23.DecidePaths", spec := "decidePaths", unfollowed := true, recurses := true, named := ["doorkeeper/reqline.others", "doorkeeper/decide.names"], apart := false, laid := [("doorkeeper/reqline.others", laid_doorkeeper_reqline_others), ("doorkeeper/decide.names", laid_doorkeeper_decide_names)], narrowed := true }
def DecidePathsUptoSaid : Prop := decidePathsUptoRow.holds Tryd.pinned (OpenSpec.upto decidePathsSpec)

/-- 'doorkeeperlaw23.DecideMethods', WHERE WHAT IT READS IS OF BULK AT MOST 1048576: true; the input reads as it did. -/
def decideMethodsUptoRow : OpenClaim := { program := "ytjapmlfjlojbeaadoor", sum := "c6796d333c363f35ecda5ecce7a38fda214cb69cde4829e53ffeb80d2d0c7624", func := "doorkeeper/doorkeeperlaw23.DecideMethods", spec := "decideMethods", unfollowed := true, recurses := true, named := ["doorkeeper/reqline.others", "doorkeeper/decide.names"], apart := false, laid := [("doorkeeper/reqline.others", laid_doorkeeper_reqline_others), ("doorkeeper/decide.names", laid_doorkeeper_decide_names)], narrowed := true }
def DecideMethodsUptoSaid : Prop := decideMethodsUptoRow.holds Tryd.pinned (OpenSpec.upto decideMethodsSpec)

/-- 'doorkeeperlaw23.DecideMore', WHERE WHAT IT READS IS OF BULK AT MOST 1048576: true; the input reads as it did. -/
def decideMoreUptoRow : OpenClaim := { program := "ytjapmlfjlojbeaadoor", sum := "c6796d333c363f35ecda5ecce7a38fda214cb69cde4829e53ffeb80d2d0c7624", func := "doorkeeper/doorkeeperlaw23.DecideMore", spec := "decideMore", unfollowed := true, recurses := true, named := ["doorkeeper/reqline.others", "doorkeeper/decide.names"], apart := false, laid := [("doorkeeper/reqline.others", laid_doorkeeper_reqline_others), ("doorkeeper/decide.names", laid_doorkeeper_decide_names)], narrowed := true }
def DecideMoreUptoSaid : Prop := decideMoreUptoRow.holds Tryd.pinned (OpenSpec.upto decideMoreSpec)

end Rows
end Go.Proofs.YtjapmlfjlojbeaaDoor
