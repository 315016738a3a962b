/- Fields of struct values that hold slices, as equations for the walk. No conditions. -/
import Derived.Test.YtjapmlfjlojbeaaDoorPBa
namespace Go.Proofs.YtjapmlfjlojbeaaDoor.PA
open Go.RowKit Go.Proofs.YtjapmlfjlojbeaaDoorW.PrintWords Go.Proofs.YtjapmlfjlojbeaaDoorW.PrintLast Go.Proofs.YtjapmlfjlojbeaaDoorW.PrintMore
theorem fd30_0 (v0 v1 v2 v3 : Value) (w : World) : (Instr.field 30 (.agg #[v0, v1, v2, v3]) 0).run Tryd.prog w = .ok v0 w := by kernel_rfl
theorem fd30_1 (v0 v1 v2 v3 : Value) (w : World) : (Instr.field 30 (.agg #[v0, v1, v2, v3]) 1).run Tryd.prog w = .ok v1 w := by kernel_rfl
theorem fd44_0 (v0 v1 v2 : Value) (w : World) : (Instr.field 44 (.agg #[v0, v1, v2]) 0).run Tryd.prog w = .ok v0 w := by kernel_rfl
theorem fd44_1 (v0 v1 v2 : Value) (w : World) : (Instr.field 44 (.agg #[v0, v1, v2]) 1).run Tryd.prog w = .ok v1 w := by kernel_rfl
theorem fd50_2 (v0 v1 v2 : Value) (w : World) : (Instr.field 50 (.agg #[v0, v1, v2]) 2).run Tryd.prog w = .ok v2 w := by kernel_rfl
end Go.Proofs.YtjapmlfjlojbeaaDoor.PA
