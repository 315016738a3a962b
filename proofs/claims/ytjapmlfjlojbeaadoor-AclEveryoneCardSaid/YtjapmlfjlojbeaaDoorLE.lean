/- The plain law AclEveryone: what is granted to the anonymous principal is granted to every principal. No conditions. -/
import Derived.Test.YtjapmlfjlojbeaaDoorPDe
import Derived.Test.YtjapmlfjlojbeaaDoorLM
namespace Go.Proofs.YtjapmlfjlojbeaaDoor.PA
open Go.RowKit Go.Proofs.YtjapmlfjlojbeaaDoorW.PrintWords Go.Proofs.YtjapmlfjlojbeaaDoorW.PrintLast Go.Proofs.YtjapmlfjlojbeaaDoorW.PrintMore
set_option linter.unusedVariables false
set_option linter.unusedSimpArgs false

theorem appl_anon (x : S39) (s : ByteArray) (h : appl x ⟨#[]⟩ = true) : appl x s = true := by
  unfold appl at h ⊢
  rw [show (⟨#[]⟩ : ByteArray).toList = [] from bl #[]] at h
  by_cases c1 : x.f0.toList = ([] : List UInt8)
  · rw [if_pos c1]
  · rw [if_neg c1] at h
    by_cases c2 : x.f0.toList = ([42] : List UInt8)
    · rw [if_pos c2] at h
      exact absurd h (by decide)
    · rw [if_neg c2] at h
      exact absurd (beq_iff_eq.mp h) c1
theorem any_anon (q : S39 → Bool) (s : ByteArray) (l : List S39) (h : (l.any fun x => appl x ⟨#[]⟩ && q x) = true) : (l.any fun x => appl x s && q x) = true := by
  rw [List.any_eq_true] at h ⊢
  obtain ⟨x, hx, h⟩ := h
  rw [Bool.and_eq_true] at h
  exact ⟨x, hx, by rw [appl_anon x s h.1, h.2]; rfl⟩
theorem granted_anon (l : List S39) (s m : ByteArray) (h : granted l ⟨#[]⟩ m = true) : granted l s m = true := by
  unfold granted at h ⊢
  split
  · rename_i c
    rw [if_pos c] at h
    exact any_anon _ s l h
  · rename_i c1
    rw [if_neg c1] at h
    split
    · rename_i c
      rw [if_pos c] at h
      exact any_anon _ s l h
    · rename_i c2
      rw [if_neg c2] at h
      split
      · rename_i c
        rw [if_pos c] at h
        exact any_anon _ s l h
      · rename_i c3
        rw [if_neg c3] at h
        exact h

theorem app_toList (s : ByteArray) : ((⟨#[120]⟩ : ByteArray) ++ s).toList = 120 :: s.toList := by
  rw [ByteArray.toList_eq, ByteArray.toList_eq, ByteArray.data_append]
  simp
theorem appl_x (g h : Bool) (s : ByteArray) : appl ⟨(⟨#[120]⟩ : ByteArray) ++ s, g, h⟩ s = false := by
  unfold appl
  simp only [app_toList]
  rw [if_neg (by simp), if_neg (by simp)]
  rw [beq_eq_false_iff_ne]
  intro e
  have := congrArg List.length e
  simp at this

theorem everyone_j1 (s : ByteArray) (hs : 1 + s.size ≤ 9223372036854775807) : Ev (fun k => doorkeeperlaw22_AclEveryone.j1 k s false) true := by
  refine Ev.step (fun k => ?_) (Ev.now true)
  rw [doorkeeperlaw22_AclEveryone.j1, appl_f ⟨⟨#[42]⟩, true, false⟩, appl_star]
  have e2 : acl_Applies.f ⟨#[]⟩ false false s = some true := by
    rw [appl_f ⟨⟨#[]⟩, false, false⟩]
    unfold appl
    simp only [bl]
    rw [if_pos trivial]
  have e3 : acl_Applies.f ((⟨#[120]⟩ : ByteArray) ++ s) false false s = some false := by
    rw [appl_f ⟨(⟨#[120]⟩ : ByteArray) ++ s, false, false⟩, appl_x]
  simp only [Option.bind_some, Bool.false_eq_true, if_false, e2, e3, beq_self_eq_true, if_true]
  rw [if_pos hs]
  rfl

theorem everyone_ev (l0 : List ByteArray) (l : List S39) (b : Bool) (rl s m : ByteArray) : Ev (fun k => doorkeeperlaw22_AclEveryone.f k l0 l b rl s m) true := by
  have jt : Ev (fun k => doorkeeperlaw22_AclEveryone.j0 k s m true l0 l b rl) true := Ev.step (fun k => by rw [doorkeeperlaw22_AclEveryone.j0]; rfl) (Ev.now true)
  unfold doorkeeperlaw22_AclEveryone.f doorkeeperlaw22_awake.f
  simp only [Option.bind_some, if_true]
  by_cases h1 : (l.length : Int) > 20
  · simp only [if_pos h1]
    exact jt
  · simp only [if_neg h1]
    by_cases h2 : (s.size : Int) > 60
    · simp only [if_pos h2]
      exact jt
    · simp only [if_neg h2]
      have J := everyone_j1 s (by omega)
      generalize decide ((m.size : Int) > 60) = x
      cases x
      · refine Ev.step (fun k => ?_) J
        rw [doorkeeperlaw22_AclEveryone.j0]
        simp only [acl_Granted.f, Option.bind_some, Bool.false_eq_true, if_false]
        by_cases hg : granted l ⟨#[]⟩ m = true
        · rw [if_pos hg, granted_anon l s m hg]
          rfl
        · rw [if_neg hg]
      · exact jt
end Go.Proofs.YtjapmlfjlojbeaaDoor.PA
