/- What both By and both For return, in plain words. No conditions. -/
import Derived.Test.YtjapmlfjlojbeaaDoorHQ
import Derived.Test.YtjapmlfjlojbeaaDoorPCd
import Derived.Test.YtjapmlfjlojbeaaDoorPCe
import Derived.Test.YtjapmlfjlojbeaaDoorPBj
import Derived.Test.YtjapmlfjlojbeaaDoorPBh
namespace Go.Proofs.YtjapmlfjlojbeaaDoor.PA
open Go.RowKit Go.Proofs.YtjapmlfjlojbeaaDoorW.PrintWords Go.Proofs.YtjapmlfjlojbeaaDoorW.PrintLast Go.Proofs.YtjapmlfjlojbeaaDoorW.PrintMore
set_option linter.unusedVariables false
set_option linter.unusedSimpArgs false

/-- The decision on a rule. -/
def byv (g : List S39) (hide : Bool) (rl s m : ByteArray) : Int × List ByteArray × ByteArray :=
  if granted g s m = true then (1, meths g s, ⟨#[]⟩) else if ((meths g s).length : Int) > 0 then (4, meths g s, ⟨#[]⟩) else if s.toList = ([] : List UInt8) then (if hide = true then (3, [], ⟨#[]⟩) else (2, [], rl)) else (3, [], ⟨#[]⟩)

theorem aBy (k : Nat) (l0 : List ByteArray) (l1 : List S39) (b : Bool) (rl s m : ByteArray) : decide_By.f (k + 4) l0 l1 b rl s m = some (byv l1 b rl s m) := by
  unfold decide_By.f byv
  rw [aMeths]
  simp only [acl_Granted.f, Option.bind_some]
  repeat' split
  all_goals rfl
theorem rBy (k : Nat) (l0 : List ByteArray) (l1 : List S39) (b : Bool) (rl s m : ByteArray) : doorkeeperref23_By.f (k + 4) l0 l1 b rl s m = some (byv l1 b rl s m) := by
  unfold doorkeeperref23_By.f byv
  rw [rMeths]
  simp only [doorkeeperref22_Granted.f, Option.bind_some]
  repeat' split
  all_goals rfl
theorem aFor (k : Nat) (n0 n1 : List ByteArray) (l : List S30) (p : List ByteArray) (s m : ByteArray) : decide_For.f (k + 4) n0 n1 l p s m = some (byv (mval l p).f1 (mval l p).f2 (mval l p).f3 s m) := by
  unfold decide_For.f
  simp only [acl_Match.f, Option.bind_some]
  rw [aBy]
  rfl
theorem rFor (k : Nat) (n0 n1 : List ByteArray) (l : List S30) (p : List ByteArray) (s m : ByteArray) : doorkeeperref23_For.f (k + 4) n0 n1 l p s m = some (byv (mval l p).f1 (mval l p).f2 (mval l p).f3 s m) := by
  unfold doorkeeperref23_For.f
  simp only [doorkeeperref22_Match.f, Option.bind_some]
  rw [rBy]
  rfl
theorem aSees (k : Nat) (n0 n1 : List ByteArray) (l : List S30) (p : List ByteArray) (s : ByteArray) : decide_Sees.f k n0 n1 l p s = some (granted (mval l p).f1 s OPTIONS) := by
  unfold decide_Sees.f
  rw [aRead]
  rfl
theorem meths_len' (l : List S39) (s : ByteArray) : (meths l s).length ≤ 3 := List.length_filter_le _ _
theorem aBy_ev (l0 : List ByteArray) (l1 : List S39) (b : Bool) (rl s m : ByteArray) : Ev (fun k => decide_By.f k l0 l1 b rl s m) (byv l1 b rl s m) :=
  ⟨4, fun k hk => by obtain ⟨j, rfl⟩ : ∃ j, k = j + 4 := ⟨k - 4, by omega⟩; exact aBy j l0 l1 b rl s m⟩
theorem rBy_ev (l0 : List ByteArray) (l1 : List S39) (b : Bool) (rl s m : ByteArray) : Ev (fun k => doorkeeperref23_By.f k l0 l1 b rl s m) (byv l1 b rl s m) :=
  ⟨4, fun k hk => by obtain ⟨j, rfl⟩ : ∃ j, k = j + 4 := ⟨k - 4, by omega⟩; exact rBy j l0 l1 b rl s m⟩
theorem byv_len (g : List S39) (b : Bool) (rl s m : ByteArray) : (byv g b rl s m).2.1.length ≤ 3 := by
  unfold byv
  have := meths_len' g s
  repeat' split
  all_goals simp_all
theorem same23_ev (i : Int) (l : List ByteArray) (rl : ByteArray) (hl : l.length ≤ 3) : Ev (fun k => doorkeeperref23_Same.f k i l rl i l rl) true := by
  unfold doorkeeperref23_Same.f
  simp only [if_true]
  refine Ev.bind (f := fun k t => if t = true then some (rl.toList == rl.toList) else some false) (texts_eq l l (by omega)) ?_
  rw [decide_eq_true rfl]
  simp only [if_true, beq_self_eq_true]
  exact Ev.now _

end Go.Proofs.YtjapmlfjlojbeaaDoor.PA
