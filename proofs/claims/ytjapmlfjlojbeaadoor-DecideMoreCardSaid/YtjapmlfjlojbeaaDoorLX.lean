/- The plain law DecideMore: a further grant takes nothing away. No conditions. -/
import Derived.Test.YtjapmlfjlojbeaaDoorPDx
import Derived.Test.YtjapmlfjlojbeaaDoorHB
namespace Go.Proofs.YtjapmlfjlojbeaaDoor.PA
open Go.RowKit Go.Proofs.YtjapmlfjlojbeaaDoorW.PrintWords Go.Proofs.YtjapmlfjlojbeaaDoorW.PrintLast Go.Proofs.YtjapmlfjlojbeaaDoorW.PrintMore
set_option linter.unusedVariables false
set_option linter.unusedSimpArgs false

theorem granted_more (l l' : List S39) (s m : ByteArray) (h : granted l s m = true) : granted (l ++ l') s m = true := by
  unfold granted at h ⊢
  simp only [List.any_append]
  repeat' split
  all_goals simp_all
theorem filter_len_le (q q' : ByteArray → Bool) (h : ∀ m, q m = true → q' m = true) : ∀ L : List ByteArray, (L.filter q).length ≤ (L.filter q').length
  | [] => Nat.le_refl _
  | x :: L => by
    have ih := filter_len_le q q' h L
    simp only [List.filter]
    cases hq : q x
    · cases q' x
      · exact ih
      · exact Nat.le_succ_of_le ih
    · rw [h x hq]
      exact Nat.succ_le_succ ih
theorem meths_more (l l' : List S39) (s : ByteArray) : (meths l s).length ≤ (meths (l ++ l') s).length := filter_len_le _ _ (fun m h => granted_more l l' s m h) _
theorem byv_more (l l' : List S39) (hd : Bool) (rl s m : ByteArray) : (byv l hd rl s m).2.1.length ≤ (byv (l ++ l') hd rl s m).2.1.length := by
  have hm := meths_more l l' s
  unfold byv
  by_cases h1 : granted l s m = true
  · rw [if_pos h1, if_pos (granted_more l l' s m h1)]
    exact hm
  · rw [if_neg h1]
    by_cases h2 : ((meths l s).length : Int) > 0
    · rw [if_pos h2]
      by_cases h3 : granted (l ++ l') s m = true
      · rw [if_pos h3]
        exact hm
      · rw [if_neg h3, if_pos (by omega)]
        exact hm
    · rw [if_neg h2]
      have e : (if s.toList = ([] : List UInt8) then (if hd = true then ((3 : Int), ([] : List ByteArray), (⟨#[]⟩ : ByteArray)) else (2, [], rl)) else (3, [], ⟨#[]⟩)).2.1.length = 0 := by
        repeat' split
        all_goals rfl
      rw [e]
      exact Nat.zero_le _
theorem byv_allow (l l' : List S39) (hd : Bool) (rl s m : ByteArray) (h : (byv l hd rl s m).1 = 1) : (byv (l ++ l') hd rl s m).1 = 1 := by
  unfold byv at h ⊢
  by_cases h1 : granted l s m = true
  · rw [if_pos (granted_more l l' s m h1)]
  · rw [if_neg h1] at h
    exfalso
    revert h
    repeat' split
    all_goals (intro h; exact absurd h (by simp))

theorem more_ev (l0 : List ByteArray) (l : List S39) (b : Bool) (rl gu : ByteArray) (gg gh : Bool) (s m : ByteArray) : Ev (fun k => doorkeeperlaw23_DecideMore.f k l0 l b rl gu gg gh s m) true := by
  have jt : Ev (fun k => doorkeeperlaw23_DecideMore.j0 k s m true l0 l b rl gu gg gh) true := Ev.step (fun k => by rw [doorkeeperlaw23_DecideMore.j0]; rfl) (Ev.now true)
  unfold doorkeeperlaw23_DecideMore.f doorkeeperlaw23_awake.f
  simp only [Option.bind_some, if_true]
  by_cases h1 : (l.length : Int) > 20
  · simp only [if_pos h1]
    exact jt
  · simp only [if_neg h1]
    by_cases h2 : (s.size : Int) > 60
    · simp only [if_pos h2]
      exact jt
    · simp only [if_neg h2]
      generalize decide ((m.size : Int) > 60) = x
      cases x
      · refine Ev.step (f := fun k => (decide_By.f k l0 l b rl s m).bind fun bt163 => ((decide_By.f k l0 (l ++ [⟨gu, gg, gh⟩]) b rl s m).bind fun bt169 => (if (bt169.2.1.length : Int) < (bt163.2.1.length : Int) then (some false) else ((doorkeeperref23_By.f k l0 (l ++ [⟨gu, gg, gh⟩]) b rl s m).bind fun bt175 => ((doorkeeperref23_Same.f k bt169.1 bt169.2.1 bt169.2.2 bt175.1 bt175.2.1 bt175.2.2).bind fun t180 => (if t180 = true then (if bt163.1 = 1 then (some (bt169.1 == 1)) else (some true)) else (some false))))))) (fun k => ?_) ?_
        · rw [doorkeeperlaw23_DecideMore.j0]
          simp only [Bool.false_eq_true, if_false, Option.bind_some, List.nil_append, List.length_nil, List.length_cons]
          rw [if_pos (by omega), if_pos (by omega)]
        · refine Ev.bind (f := fun k t => _) (aBy_ev _ _ _ _ _ _) ?_
          refine Ev.bind (f := fun k t => _) (aBy_ev _ _ _ _ _ _) ?_
          have hm := byv_more l [⟨gu, gg, gh⟩] b rl s m
          simp only [if_neg (show ¬ (((byv (l ++ [⟨gu, gg, gh⟩]) b rl s m).2.1.length : Int) < ((byv l b rl s m).2.1.length : Int)) by omega)]
          refine Ev.bind (f := fun k t => _) (rBy_ev _ _ _ _ _ _) ?_
          refine Ev.bind (f := fun k t => if t = true then (if (byv l b rl s m).1 = 1 then (some ((byv (l ++ [⟨gu, gg, gh⟩]) b rl s m).1 == 1)) else (some true)) else (some false)) (same23_ev _ _ _ (byv_len _ _ _ _ _)) ?_
          simp only [if_true]
          by_cases h3 : (byv l b rl s m).1 = 1
          · simp only [if_pos h3]
            rw [byv_allow l _ b rl s m h3]
            exact Ev.now _
          · simp only [if_neg h3]
            exact Ev.now _
      · exact jt
end Go.Proofs.YtjapmlfjlojbeaaDoor.PA
