/- The plain law AclGrants: what both Granted and both Methods return is the same. Conditions: the lists are no longer than a slice may be. -/
import Derived.Test.YtjapmlfjlojbeaaDoorPDg
import Derived.Test.YtjapmlfjlojbeaaDoorLM
namespace Go.Proofs.YtjapmlfjlojbeaaDoor.PA
open Go.RowKit Go.Proofs.YtjapmlfjlojbeaaDoorW.PrintWords Go.Proofs.YtjapmlfjlojbeaaDoorW.PrintLast Go.Proofs.YtjapmlfjlojbeaaDoorW.PrintMore
set_option linter.unusedVariables false
set_option linter.unusedSimpArgs false

theorem aMeths_ev (l0 : List ByteArray) (l1 : List S39) (b : Bool) (rl s : ByteArray) : Ev (fun k => acl_Methods.f k l0 l1 b rl s) (meths l1 s) :=
  ⟨4, fun k hk => by obtain ⟨j, rfl⟩ : ∃ j, k = j + 4 := ⟨k - 4, by omega⟩; exact aMeths j l0 l1 b rl s⟩
theorem rMeths_ev (l0 : List ByteArray) (l1 : List S39) (b : Bool) (rl s : ByteArray) : Ev (fun k => doorkeeperref22_Methods.f k l0 l1 b rl s) (meths l1 s) :=
  ⟨4, fun k hk => by obtain ⟨j, rfl⟩ : ∃ j, k = j + 4 := ⟨k - 4, by omega⟩; exact rMeths j l0 l1 b rl s⟩
theorem meths_len (l : List S39) (s : ByteArray) : (meths l s).length ≤ 3 := List.length_filter_le _ _

theorem grants_j0 (l : List S30) (p : List ByteArray) (s m : ByteArray) (x : Bool) : Ev (fun k => doorkeeperlaw22_AclGrants.j0 k l p s m x) true := by
  cases x
  · refine Ev.step (f := fun k => (acl_Methods.f k (mval l p).f0 (mval l p).f1 (mval l p).f2 (mval l p).f3 s).bind fun t207 => ((doorkeeperref22_Methods.f k (mval l p).f0 (mval l p).f1 (mval l p).f2 (mval l p).f3 s).bind fun t210 => ((doorkeeperref09_Texts.f k t207 t210).bind fun t213 => (some t213)))) (fun k => ?_) ?_
    · rw [doorkeeperlaw22_AclGrants.j0]
      simp only [doorkeeperref22_Match.f, acl_Granted.f, doorkeeperref22_Granted.f, Option.bind_some, Bool.false_eq_true, if_false, beq_self_eq_true, if_true]
    · refine Ev.bind (f := fun k t => _) (aMeths_ev _ _ _ _ _) ?_
      refine Ev.bind (f := fun k t => _) (rMeths_ev _ _ _ _ _) ?_
      refine Ev.bind (f := fun k t => some t) (texts_eq _ _ (by have := meths_len (mval l p).f1 s; omega)) ?_
      rw [decide_eq_true rfl]
      exact Ev.now _
  · exact Ev.step (fun k => by rw [doorkeeperlaw22_AclGrants.j0]; rfl) (Ev.now true)

theorem grants_ev (l : List S30) (p : List ByteArray) (s m : ByteArray) (hl : l.length ≤ 9223372036854775807) (hp : p.length ≤ 9223372036854775807) : Ev (fun k => doorkeeperlaw22_AclGrants.f k l p s m) true := by
  obtain ⟨b, hb⟩ := few22_ev l hl
  obtain ⟨c, hc, _⟩ := few16_ev p hp
  unfold doorkeeperlaw22_AclGrants.f doorkeeperlaw22_awake.f
  simp only [Option.bind_some, if_true]
  refine Ev.bind (f := fun k t => _) hb ?_
  cases b
  · simp only [Bool.false_eq_true, if_false]
    exact grants_j0 l p s m true
  · simp only [if_true]
    refine Ev.bind (f := fun k t => _) hc ?_
    cases c
    · simp only [Bool.false_eq_true, if_false]
      exact grants_j0 l p s m true
    · simp only [if_true]
      by_cases h60 : (s.size : Int) > 60
      · simp only [if_pos h60]
        exact grants_j0 l p s m true
      · simp only [if_neg h60]
        exact grants_j0 l p s m _
end Go.Proofs.YtjapmlfjlojbeaaDoor.PA
