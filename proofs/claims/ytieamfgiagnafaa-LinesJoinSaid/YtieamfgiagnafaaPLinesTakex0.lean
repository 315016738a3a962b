-- PRINTED BY print.sh 35421559b90ae4d0a3588c463048766b98c2df88dd9212a6774a882060cdf62d: not written by this session
import Derived.Test.YtieamfgiagnafaaProg
import Derived.Below
import Derived.Deep.Draws
import Derived.Deep.AppendLies
import Derived.Maps.AppendAt
import Derived.OwnWalk
import Derived.Laws.BytesArg
import Derived.Laws.MakeOwn
import Derived.Laws.OwnMore
import Derived.Deep.OwnRows
import Derived.Tactics
import Derived.Lib.ConvBytes
import Derived.Laws.Slices
import Derived.WalkKit
import Derived.KernelRfl
import Derived.RowKit3
import Derived.Deep.LoopGhost
import Derived.Deep.QuietTactic
import Derived.BigQuiet
import Derived.WideLaws
import Derived.Deep.DeepCutAuto
import Derived.Deep.CutBlock
import Derived.Deep.RegionHeld3
import Derived.Laws.Rows
import Derived.Lib.AppendStr
import Derived.ArgAppend
import Derived.Laws.IdiomCopy
import Derived.OrdersHeld
import Derived.Laws.BitsLemmas
import Derived.RowKit
import Derived.Test.YtieamfgiagnafaaWWords
import Derived.Test.YtieamfgiagnafaaWLast
import Derived.Test.YtieamfgiagnafaaWTab
import Derived.Test.YtieamfgiagnafaaWFour
import Derived.Test.YtieamfgiagnafaaWQPut
import Derived.Test.YtieamfgiagnafaaWApart
import Derived.Test.YtieamfgiagnafaaWArr
import Derived.Test.YtieamfgiagnafaaWZeros
import Derived.Test.YtieamfgiagnafaaWFoot
import Derived.Test.YtieamfgiagnafaaWKept
import Derived.Test.YtieamfgiagnafaaWShare
import Derived.Test.YtieamfgiagnafaaWN
import Derived.Test.YtieamfgiagnafaaWFootNe
import Derived.Test.YtieamfgiagnafaaWAt
import Derived.Test.YtieamfgiagnafaaWEqStruct
import Derived.Test.YtieamfgiagnafaaWRepsOne
import Derived.Test.YtieamfgiagnafaaWInv
import Derived.Test.YtieamfgiagnafaaWInvWords
import Derived.Test.YtieamfgiagnafaaWGuard
import Derived.Test.YtieamfgiagnafaaWNEv
import Derived.Test.YtieamfgiagnafaaWMore
namespace Go.Proofs.Ytieamfgiagnafaa.PLinesTake
open Go.RowKit Go.Proofs.YtieamfgiagnafaaW.PrintWords Go.Proofs.YtieamfgiagnafaaW.PrintLast Go.Proofs.YtieamfgiagnafaaW.PrintMore
attribute [local go_sem] max2_int min2_int max_two min_two max_three min_three max_four min_four   -- for this text's walks alone
set_option linter.unusedVariables false
set_option linter.unusedSimpArgs false



def errW : Option Int → Value
  | none => .nilIface
  | some c => .iface 0 (.int .i64 c)
theorem errW_none : errW none = .nilIface := rfl
theorem errW_some (c : Int) : errW (some c) = .iface 0 (.int .i64 c) := rfl

theorem info9 : (Try.prog.info? 9).map (fun i => (i.zero, i.size, i.bytes)) = some (some (.string ⟨#[]⟩), 1, 16) := by kernel_rfl
-- the values' own types

end Go.Proofs.Ytieamfgiagnafaa.PLinesTake
