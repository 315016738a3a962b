/- The plain law DecideMatchesReference. No conditions. -/
import Derived.Test.YtjapmlfjlojbeaaDoorPDd
import Derived.Test.YtjapmlfjlojbeaaDoorHB
namespace Go.Proofs.YtjapmlfjlojbeaaDoor.PA
open Go.RowKit Go.Proofs.YtjapmlfjlojbeaaDoorW.PrintWords Go.Proofs.YtjapmlfjlojbeaaDoorW.PrintLast Go.Proofs.YtjapmlfjlojbeaaDoorW.PrintMore
set_option linter.unusedVariables false
set_option linter.unusedSimpArgs false

theorem dmr_ev (l0 : List ByteArray) (l : List S39) (b : Bool) (rl s m : ByteArray) (n : Int) : Ev (fun k => doorkeeperlaw23_DecideMatchesReference.f k l0 l b rl s m n) true := by
  have jt : Ev (fun k => doorkeeperlaw23_DecideMatchesReference.j0 k s m n true l0 l b rl) true := Ev.step (fun k => by rw [doorkeeperlaw23_DecideMatchesReference.j0]; rfl) (Ev.now true)
  have jf : Ev (fun k => doorkeeperlaw23_DecideMatchesReference.j0 k s m n false l0 l b rl) true := by
    refine Ev.step (f := fun k => (decide_By.f k l0 l b rl s m).bind fun bt325 => ((doorkeeperref23_By.f k l0 l b rl s m).bind fun bt330 => ((doorkeeperref23_Same.f k bt325.1 bt325.2.1 bt325.2.2 bt330.1 bt330.2.1 bt330.2.2).bind fun t335 => (if t335 = true then ((decide_Name.f n).bind fun t336 => ((doorkeeperref23_Name.f n).bind fun t337 => (some (t336.toList == t337.toList)))) else (some false))))) (fun k => by rw [doorkeeperlaw23_DecideMatchesReference.j0]; simp only [Bool.false_eq_true, if_false]) ?_
    refine Ev.bind (f := fun k t => _) (aBy_ev _ _ _ _ _ _) ?_
    refine Ev.bind (f := fun k t => _) (rBy_ev _ _ _ _ _ _) ?_
    refine Ev.bind (f := fun k t => if t = true then ((decide_Name.f n).bind fun t336 => ((doorkeeperref23_Name.f n).bind fun t337 => (some (t336.toList == t337.toList)))) else some false) (same23_ev _ _ _ (byv_len l b rl s m)) ?_
    simp only [if_true]
    have e : ∃ x, doorkeeperref23_Name.f n = some x := by
      unfold doorkeeperref23_Name.f
      repeat' split
      all_goals exact ⟨_, rfl⟩
    obtain ⟨x, e⟩ := e
    unfold decide_Name.f
    rw [e]
    simp only [Option.bind_some, beq_self_eq_true]
    exact Ev.now _
  unfold doorkeeperlaw23_DecideMatchesReference.f doorkeeperlaw23_awake.f
  simp only [Option.bind_some, if_true]
  by_cases h1 : (l.length : Int) > 20
  · simp only [if_pos h1]
    exact jt
  · simp only [if_neg h1]
    by_cases h2 : (s.size : Int) > 60
    · simp only [if_pos h2]
      exact jt
    · simp only [if_neg h2]
      generalize decide ((m.size : Int) > 60) = x
      cases x
      · exact jf
      · exact jt
end Go.Proofs.YtjapmlfjlojbeaaDoor.PA
