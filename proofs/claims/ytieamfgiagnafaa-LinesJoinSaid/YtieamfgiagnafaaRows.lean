/-
  No cell of these rows narrows 'for every input' (looked for: loops, veiled, ifaces, maps, wideKeys, modest, calm, conditions, laid).
  DERIVED. THE GIVEN ROWS OF THIS SEAT. 4 by the template 'for every input the law returns true; each argument reads behind the call as it read before'; 0 by the template 'total and deterministic' (their statements: YtieamfgiagnafaaTotals.lean).
  GIVEN WITH THE SEED: the statements are not yours to turn. If you find one false, say at which input.
  Laid BY PROGRAM, IN A SANDBOX (cutbox-rows.mjs): the forced cells as the released guide's own fill.sh prints them over the translation 4f02e54116bf48e8… (all of the seat's roots in one cut). By AI agents, Wed Nov 11 2026. No macro, syntax, notation, axiom, sorry.
-/
import Derived.Test.YtieamfgiagnafaaChecked
import GoSem.Claim
import GoSem.ClaimJoined
import GoSem.ClaimMapViews
import Derived.JoinedTies
import Derived.KernelRfl
namespace Go.Proofs.Ytieamfgiagnafaa
/- THE CELL 'sum', in the pinned program and in every row, IS THE sha256 OF THE DUMP (.gsa) THAT YtieamfgiagnafaaProg.lean LOADS. Nothing in Lean hashes anything: it is a label: what it is worth is what the hold of that sum in a sandbox is worth. -/
noncomputable def Try.pinned : Pinned := { name := "ytieamfgiagnafaa", sum := "4f02e54116bf48e84d73f712c22d9e6362330598ffba0a430f3f57bd6293fbf7", checked := Try.checked }
namespace Rows
def none {H : Type} : Left H := { results := [], args := [] }

/-- 'doorkeeperlaw09.LinesTake': WHATEVER THE INPUT: true; the input reads as it did. -/
def linesTakeSpec : ChangeSpec := { name := "linesTake", fn := fun _ => fun
  | [d1, d2] => { results := [.lit (.bool true)], args := [d1, d2] }
  | _ => none }
def linesTakeRow : OpenClaim := { program := "ytieamfgiagnafaa", sum := "4f02e54116bf48e84d73f712c22d9e6362330598ffba0a430f3f57bd6293fbf7", func := "doorkeeper/doorkeeperlaw09.LinesTake", spec := "linesTake", apart := false }
def LinesTakeSaid : Prop := linesTakeRow.holds Try.pinned (OpenSpec.ofChange linesTakeSpec)

/-- ITS FALSE NEIGHBOUR: 'it returns false'. Refute it at one input. -/
def linesTakeWrong : ChangeSpec := { name := "linesTake", fn := fun _ => fun
  | [d1, d2] => { results := [.lit (.bool false)], args := [d1, d2] }
  | _ => none }
def LinesTakeWrongFalsely : Prop := linesTakeRow.holds Try.pinned (OpenSpec.ofChange linesTakeWrong)

/-- 'doorkeeperlaw09.LinesJoin': WHATEVER THE INPUT: true; the input reads as it did. -/
def linesJoinSpec : ChangeSpec := { name := "linesJoin", fn := fun _ => fun
  | [d1, d2] => { results := [.lit (.bool true)], args := [d1, d2] }
  | _ => none }
def linesJoinRow : OpenClaim := { program := "ytieamfgiagnafaa", sum := "4f02e54116bf48e84d73f712c22d9e6362330598ffba0a430f3f57bd6293fbf7", func := "doorkeeper/doorkeeperlaw09.LinesJoin", spec := "linesJoin", apart := false }
def LinesJoinSaid : Prop := linesJoinRow.holds Try.pinned (OpenSpec.ofChange linesJoinSpec)

/-- ITS FALSE NEIGHBOUR: 'it returns false'. Refute it at one input. -/
def linesJoinWrong : ChangeSpec := { name := "linesJoin", fn := fun _ => fun
  | [d1, d2] => { results := [.lit (.bool false)], args := [d1, d2] }
  | _ => none }
def LinesJoinWrongFalsely : Prop := linesJoinRow.holds Try.pinned (OpenSpec.ofChange linesJoinWrong)

/-- 'doorkeeperlaw09.LinesStay': WHATEVER THE INPUT: true; the input reads as it did. -/
def linesStaySpec : ChangeSpec := { name := "linesStay", fn := fun _ => fun
  | [d1, d2, d3] => { results := [.lit (.bool true)], args := [d1, d2, d3] }
  | _ => none }
def linesStayRow : OpenClaim := { program := "ytieamfgiagnafaa", sum := "4f02e54116bf48e84d73f712c22d9e6362330598ffba0a430f3f57bd6293fbf7", func := "doorkeeper/doorkeeperlaw09.LinesStay", spec := "linesStay", apart := false }
def LinesStaySaid : Prop := linesStayRow.holds Try.pinned (OpenSpec.ofChange linesStaySpec)

/-- ITS FALSE NEIGHBOUR: 'it returns false'. Refute it at one input. -/
def linesStayWrong : ChangeSpec := { name := "linesStay", fn := fun _ => fun
  | [d1, d2, d3] => { results := [.lit (.bool false)], args := [d1, d2, d3] }
  | _ => none }
def LinesStayWrongFalsely : Prop := linesStayRow.holds Try.pinned (OpenSpec.ofChange linesStayWrong)

/-- 'doorkeeperlaw09.LinesApart': WHATEVER THE INPUT: true; the input reads as it did. -/
def linesApartSpec : ChangeSpec := { name := "linesApart", fn := fun _ => fun
  | [d1, d2] => { results := [.lit (.bool true)], args := [d1, d2] }
  | _ => none }
def linesApartRow : OpenClaim := { program := "ytieamfgiagnafaa", sum := "4f02e54116bf48e84d73f712c22d9e6362330598ffba0a430f3f57bd6293fbf7", func := "doorkeeper/doorkeeperlaw09.LinesApart", spec := "linesApart", apart := false }
def LinesApartSaid : Prop := linesApartRow.holds Try.pinned (OpenSpec.ofChange linesApartSpec)

/-- ITS FALSE NEIGHBOUR: 'it returns false'. Refute it at one input. -/
def linesApartWrong : ChangeSpec := { name := "linesApart", fn := fun _ => fun
  | [d1, d2] => { results := [.lit (.bool false)], args := [d1, d2] }
  | _ => none }
def LinesApartWrongFalsely : Prop := linesApartRow.holds Try.pinned (OpenSpec.ofChange linesApartWrong)

/- THE SECOND FORM. 'bulk': how many values and letters a reading holds, each counted each time it is reached (what is shared counts as often as it is met; a slice's spare places count too). A statement '..UptoSaid' is the law's where the arguments, and the package variables that the reading takes, are together of bulk at most 1048576: NARROWER than '..Said'. Prove '..Said' where nothing that the law and all that it calls make is longer than what came in: it says more and counts as full. Else prove '..UptoSaid'. A law counts once. -/
mutual
def uptoBulk {H : Type} : DataW H → Nat
  | .lit (.string bytes) => bytes.length + 1
  | .lit _ => 1
  | .nil => 1
  | .ptr d => uptoBulk d + 1
  | .slice elems spare => uptoBulkAll elems + uptoBulkAll spare + 1
  | .agg parts => uptoBulkAll parts + 1
  | .iface _ d => uptoBulk d + 1
  | .map entries => uptoBulkEntries entries + 1
  | .held _ => 1
def uptoBulkAll {H : Type} : List (DataW H) → Nat
  | [] => 0
  | d :: r => uptoBulk d + uptoBulkAll r
def uptoBulkEntries {H : Type} : List (Lit × DataW H) → Nat
  | [] => 0
  | x :: r => uptoBulkEntry x + uptoBulkEntries r
def uptoBulkEntry {H : Type} : Lit × DataW H → Nat
  | (.string bytes, d) => bytes.length + uptoBulk d + 1
  | (_, d) => uptoBulk d + 1
 end
def uptoSmall : (H : Type) → List (DataW H) → Bool := fun _ ds => decide (uptoBulkAll ds ≤ 1048576)
def OpenSpec.upto (s : _root_.Go.ChangeSpec) : _root_.Go.OpenSpec := { _root_.Go.OpenSpec.ofChange s with cond := some uptoSmall }

/-- 'doorkeeperlaw09.LinesTake', WHERE WHAT IT READS IS OF BULK AT MOST 1048576: true; the input reads as it did. -/
def linesTakeUptoRow : OpenClaim := { program := "ytieamfgiagnafaa", sum := "4f02e54116bf48e84d73f712c22d9e6362330598ffba0a430f3f57bd6293fbf7", func := "doorkeeper/doorkeeperlaw09.LinesTake", spec := "linesTake", apart := false, narrowed := true }
def LinesTakeUptoSaid : Prop := linesTakeUptoRow.holds Try.pinned (OpenSpec.upto linesTakeSpec)

/-- 'doorkeeperlaw09.LinesJoin', WHERE WHAT IT READS IS OF BULK AT MOST 1048576: true; the input reads as it did. -/
def linesJoinUptoRow : OpenClaim := { program := "ytieamfgiagnafaa", sum := "4f02e54116bf48e84d73f712c22d9e6362330598ffba0a430f3f57bd6293fbf7", func := "doorkeeper/doorkeeperlaw09.LinesJoin", spec := "linesJoin", apart := false, narrowed := true }
def LinesJoinUptoSaid : Prop := linesJoinUptoRow.holds Try.pinned (OpenSpec.upto linesJoinSpec)

/-- 'doorkeeperlaw09.LinesStay', WHERE WHAT IT READS IS OF BULK AT MOST 1048576: true; the input reads as it did. -/
def linesStayUptoRow : OpenClaim := { program := "ytieamfgiagnafaa", sum := "4f02e54116bf48e84d73f712c22d9e6362330598ffba0a430f3f57bd6293fbf7", func := "doorkeeper/doorkeeperlaw09.LinesStay", spec := "linesStay", apart := false, narrowed := true }
def LinesStayUptoSaid : Prop := linesStayUptoRow.holds Try.pinned (OpenSpec.upto linesStaySpec)

/-- 'doorkeeperlaw09.LinesApart', WHERE WHAT IT READS IS OF BULK AT MOST 1048576: true; the input reads as it did. -/
def linesApartUptoRow : OpenClaim := { program := "ytieamfgiagnafaa", sum := "4f02e54116bf48e84d73f712c22d9e6362330598ffba0a430f3f57bd6293fbf7", func := "doorkeeper/doorkeeperlaw09.LinesApart", spec := "linesApart", apart := false, narrowed := true }
def LinesApartUptoSaid : Prop := linesApartUptoRow.holds Try.pinned (OpenSpec.upto linesApartSpec)

end Rows
end Go.Proofs.Ytieamfgiagnafaa
