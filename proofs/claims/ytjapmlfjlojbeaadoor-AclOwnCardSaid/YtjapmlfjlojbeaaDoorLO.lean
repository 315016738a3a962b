/- The plain law AclOwn: the best rule of a rule's own prefix has this prefix; a longer path has a rule with a prefix that is at least as long. Conditions: the lists are no longer than a slice may be. -/
import Derived.Test.YtjapmlfjlojbeaaDoorPDo
import Derived.Test.YtjapmlfjlojbeaaDoorLP
namespace Go.Proofs.YtjapmlfjlojbeaaDoor.PA
open Go.RowKit Go.Proofs.YtjapmlfjlojbeaaDoorW.PrintWords Go.Proofs.YtjapmlfjlojbeaaDoorW.PrintLast Go.Proofs.YtjapmlfjlojbeaaDoorW.PrintMore
set_option linter.unusedVariables false
set_option linter.unusedSimpArgs false

theorem best_spec (p : List ByteArray) : ∀ (l : List S30) (most : Int) (out : S30), ∃ M, most ≤ M ∧ (∀ x ∈ l, score x p ≤ M) ∧ ((M = most ∧ bestGo p l most out = out) ∨ (M = score (bestGo p l most out) p ∧ most < M))
  | [], most, out => ⟨most, Int.le_refl _, (fun _ h => by cases h), .inl ⟨rfl, rfl⟩⟩
  | x :: l, most, out => by
    unfold bestGo
    by_cases h : most < score x p
    · rw [if_pos h]
      obtain ⟨M, h1, h2, h3⟩ := best_spec p l (score x p) x
      refine ⟨M, by omega, fun y hy => ?_, ?_⟩
      · rcases List.mem_cons.1 hy with rfl | hy
        · exact h1
        · exact h2 y hy
      · rcases h3 with ⟨e1, e2⟩ | ⟨e1, e2⟩
        · exact .inr ⟨by rw [e2]; exact e1, by omega⟩
        · exact .inr ⟨e1, by omega⟩
    · rw [if_neg h]
      obtain ⟨M, h1, h2, h3⟩ := best_spec p l most out
      refine ⟨M, h1, fun y hy => ?_, h3⟩
      rcases List.mem_cons.1 hy with rfl | hy
      · omega
      · exact h2 y hy
theorem mval_ge (l : List S30) (p : List ByteArray) (x : S30) (hx : x ∈ l) (h0 : 0 ≤ score x p) : score x p ≤ score (mval l p) p := by
  obtain ⟨M, h1, h2, h3⟩ := best_spec p l (-1) z30
  have h4 := h2 x hx
  rcases h3 with ⟨e1, _⟩ | ⟨e1, _⟩
  · omega
  · have e : score (mval l p) p = M := e1.symm
    omega
theorem score_pos (x : S30) (p : List ByteArray) (h : 0 ≤ score x p) : score x p = (x.f0.length : Int) ∧ x.f0.length ≤ p.length ∧ x.f0 = p.take x.f0.length := by
  unfold score at h ⊢
  split at h
  · rename_i c
    rw [if_pos c]
    exact ⟨rfl, c⟩
  · omega
theorem score_own (x : S30) (more : List ByteArray) : score x (x.f0 ++ more) = (x.f0.length : Int) := by
  unfold score
  rw [if_pos ⟨by simp, by simp⟩]
theorem mval_own (l : List S30) (x : S30) (hx : x ∈ l) : (mval l x.f0).f0 = x.f0 := by
  have h := score_own x []
  rw [List.append_nil] at h
  have h1 := mval_ge l x.f0 x hx (by omega)
  obtain ⟨h2, h3, h4⟩ := score_pos (mval l x.f0) x.f0 (by omega)
  rw [List.take_of_length_le (by omega)] at h4
  exact h4
theorem mval_longer (l : List S30) (x : S30) (more : List ByteArray) (hx : x ∈ l) : x.f0.length ≤ (mval l (x.f0 ++ more)).f0.length := by
  have h := score_own x more
  have h1 := mval_ge l (x.f0 ++ more) x hx (by omega)
  obtain ⟨h2, _, _⟩ := score_pos (mval l (x.f0 ++ more)) (x.f0 ++ more) (by omega)
  omega

theorem few22x_l0 (l : List S30) (hl : l.length ≤ 9223372036854775807) : ∀ d i : Nat, l.length - i = d → i ≤ l.length → ∃ b, Ev (fun k => doorkeeperref22_Few.l0 k l i) b ∧ (b = true → ∀ j, i ≤ j → (h : j < l.length) → l[j].f0.length ≤ 10)
  | 0, i, hd, hi => ⟨_, Ev.step (fun k => by rw [doorkeeperref22_Few.l0, if_neg (by omega)]) (Ev.now _), fun _ j h1 h2 => by omega⟩
  | d + 1, i, hd, hi => by
    obtain ⟨b, hb, hall⟩ := few22x_l0 l hl d (i + 1) (by omega) (by omega)
    have hw : wrap64 ((i : Int) + 1) = ((i + 1 : Nat) : Int) := by rw [w64 (by omega) (by omega)]; omega
    have e := rd30 l i (by omega)
    by_cases c1 : (((rd_T30 l i).f0).length : Int) > 10
    · exact ⟨false, Ev.step (fun k => by rw [doorkeeperref22_Few.l0, if_pos (by omega), if_pos (by omega), if_pos c1]) (Ev.now _), fun h => by cases h⟩
    · by_cases c2 : (((rd_T30 l i).f1).length : Int) > 10
      · exact ⟨false, Ev.step (fun k => by rw [doorkeeperref22_Few.l0, if_pos (by omega), if_pos (by omega), if_neg c1, if_pos c2]) (Ev.now _), fun h => by cases h⟩
      · refine ⟨b, Ev.step (fun k => by rw [doorkeeperref22_Few.l0, if_pos (by omega), if_pos (by omega), if_neg c1, if_neg c2, hw]) hb, fun h j h1 h2 => ?_⟩
        by_cases hj : j = i
        · subst hj
          rw [e] at c1
          omega
        · exact hall h j (by omega) h2

theorem own_l0 (l : List S30) (more : List ByteArray) (hl : l.length ≤ 9223372036854775807) (hx : ∀ j (h : j < l.length), l[j].f0.length ≤ 10) (hmore : more.length ≤ 10) (hm : ∀ p, (mval l p).f0.length ≤ 9223372036854775807) (hg : ∀ p, (mval l p).f1.length ≤ 9223372036854775807) :
    ∀ d i : Nat, l.length - i = d → i ≤ l.length → Ev (fun k => doorkeeperlaw22_AclOwn.l0 k l more i) true
  | 0, i, hd, hi => Ev.step (fun k => by rw [doorkeeperlaw22_AclOwn.l0, if_neg (by omega)]) (Ev.now _)
  | d + 1, i, hd, hi => by
    have ih := own_l0 l more hl hx hmore hm hg d (i + 1) (by omega) (by omega)
    have hw : wrap64 ((i : Int) + 1) = ((i + 1 : Nat) : Int) := by rw [w64 (by omega) (by omega)]; omega
    have hi' : i < l.length := by omega
    have h10 := hx i hi'
    have hown := mval_own l l[i] (List.getElem_mem hi')
    have hlong := mval_longer l l[i] more (List.getElem_mem hi')
    have e := rd30 l i hi'
    have J2 : Ev (fun k => doorkeeperlaw22_AclOwn.j2 k l more i l[i].f0 false) true := by
      refine Ev.step (fun k => ?_) ih
      rw [doorkeeperlaw22_AclOwn.j2]
      simp only [acl_Match.f, Option.bind_some, Bool.false_eq_true, if_false, List.length_nil, List.nil_append]
      rw [if_pos (by omega), if_pos (by omega), if_neg (by omega), hw]
    refine Ev.step (f := fun k => (doorkeeperref09_Texts.f k (mval l l[i].f0).f0 l[i].f0).bind fun t226 => (if t226 = true then ((doorkeeperref20_SameRule.f k (mval l l[i].f0).f0 (mval l l[i].f0).f1 (mval l l[i].f0).f2 (mval l l[i].f0).f3 (mval l l[i].f0).f0 (mval l l[i].f0).f1 (mval l l[i].f0).f2 (mval l l[i].f0).f3).bind fun t243 => (doorkeeperlaw22_AclOwn.j2 k l more i l[i].f0 (!t243))) else (doorkeeperlaw22_AclOwn.j2 k l more i l[i].f0 true))) (fun k => ?_) ?_
    · rw [doorkeeperlaw22_AclOwn.l0, if_pos (by omega), if_pos (by omega), e]
      simp only [acl_Match.f, doorkeeperref22_Match.f, Option.bind_some]
    · refine Ev.bind (f := fun k t => _) (texts_eq _ _ (hm _)) ?_
      rw [decide_eq_true hown]
      simp only [if_true]
      exact Ev.bind (f := fun k t => doorkeeperlaw22_AclOwn.j2 k l more i l[i].f0 (!t)) (same_ev _ _ _ _ (hm _) (hg _)) J2

theorem own_ev (l : List S30) (more : List ByteArray) (hl : l.length ≤ 9223372036854775807) (hm : ∀ p, (mval l p).f0.length ≤ 9223372036854775807) (hg : ∀ p, (mval l p).f1.length ≤ 9223372036854775807) : Ev (fun k => doorkeeperlaw22_AclOwn.f k l more) true := by
  obtain ⟨b, hb, hall⟩ := few22x_l0 l hl l.length 0 (by omega) (by omega)
  have jt : Ev (fun k => doorkeeperlaw22_AclOwn.j0 k l more true) true := Ev.step (fun k => by rw [doorkeeperlaw22_AclOwn.j0]; rfl) (Ev.now true)
  unfold doorkeeperlaw22_AclOwn.f doorkeeperlaw22_awake.f
  simp only [Option.bind_some, if_true]
  refine Ev.bind (g := fun k => doorkeeperref22_Few.f k l) (f := fun k t => _) hb ?_
  cases b
  · simp only [Bool.false_eq_true, if_false]
    exact jt
  · simp only [if_true]
    by_cases h : (more.length : Int) > 10
    · rw [decide_eq_true h]
      exact jt
    · rw [decide_eq_false h]
      refine Ev.step (fun k => ?_) (own_l0 l more hl (fun j h => hall rfl j (by omega) h) (by omega) hm hg l.length 0 (by omega) (by omega))
      rw [doorkeeperlaw22_AclOwn.j0]
      rfl
end Go.Proofs.YtjapmlfjlojbeaaDoor.PA
