/- The plain law AclParents: without a rule of the longer path itself, the best rule of the longer path is that of the shorter. Conditions: the lists are no longer than a slice may be. -/
import Derived.Test.YtjapmlfjlojbeaaDoorPDp
import Derived.Test.YtjapmlfjlojbeaaDoorLM
namespace Go.Proofs.YtjapmlfjlojbeaaDoor.PA
open Go.RowKit Go.Proofs.YtjapmlfjlojbeaaDoorW.PrintWords Go.Proofs.YtjapmlfjlojbeaaDoorW.PrintLast Go.Proofs.YtjapmlfjlojbeaaDoorW.PrintMore
set_option linter.unusedVariables false
set_option linter.unusedSimpArgs false

theorem bestGo_congr (p p' : List ByteArray) : ∀ (l : List S30) (most : Int) (out : S30), (∀ x ∈ l, score x p = score x p') → bestGo p l most out = bestGo p' l most out
  | [], _, _, _ => rfl
  | x :: l, most, out, h => by
    unfold bestGo
    rw [h x List.mem_cons_self, bestGo_congr p p' l _ _ (fun y hy => h y (List.mem_cons_of_mem _ hy)), bestGo_congr p p' l _ _ (fun y hy => h y (List.mem_cons_of_mem _ hy))]
theorem score_below (x : S30) (p : List ByteArray) (n : ByteArray) (h : x.f0 ≠ p ++ [n]) : score x (p ++ [n]) = score x p := by
  unfold score
  by_cases hl : x.f0.length ≤ p.length
  · rw [List.take_append_of_le_length hl]
    have e : (x.f0.length ≤ (p ++ [n]).length ∧ x.f0 = p.take x.f0.length) ↔ (x.f0.length ≤ p.length ∧ x.f0 = p.take x.f0.length) := ⟨fun h => ⟨hl, h.2⟩, fun h => ⟨by simp; omega, h.2⟩⟩
    simp only [e]
  · have n1 : ¬ (x.f0.length ≤ p.length ∧ x.f0 = p.take x.f0.length) := fun h => hl h.1
    have n2 : ¬ (x.f0.length ≤ (p ++ [n]).length ∧ x.f0 = (p ++ [n]).take x.f0.length) := fun ⟨h1, h2⟩ => by
      rw [List.take_of_length_le (by simp at h1 ⊢; omega)] at h2
      exact h h2
    rw [if_neg n1, if_neg n2]
theorem mval_below (l : List S30) (p : List ByteArray) (n : ByteArray) (h : ∀ x ∈ l, x.f0 ≠ p ++ [n]) : mval l (p ++ [n]) = mval l p :=
  bestGo_congr _ _ l _ _ (fun x hx => score_below x p n (h x hx))

theorem rd30 (l : List S30) (i : Nat) (h : i < l.length) : rd_T30 l (i : Int) = l[i] := by simp [rd_T30, List.getD_eq_getElem?_getD, List.getElem?_eq_getElem h]

theorem parents_l0 (l : List S30) (p : List ByteArray) (n : ByteArray) (hl : l.length ≤ 9223372036854775807) (hx : ∀ x ∈ l, x.f0.length ≤ 9223372036854775807) (hm : (mval l p).f0.length ≤ 9223372036854775807) (hg : (mval l p).f1.length ≤ 9223372036854775807) :
    ∀ d i : Nat, l.length - i = d → i ≤ l.length → (∀ x ∈ l.take i, x.f0 ≠ p ++ [n]) → Ev (fun k => doorkeeperlaw22_AclParents.l0 k l p (p ++ [n]) i) true
  | 0, i, hd, hi, hne => by
    rw [List.take_of_length_le (by omega)] at hne
    refine Ev.step (f := fun k => (doorkeeperref20_SameRule.f k (mval l p).f0 (mval l p).f1 (mval l p).f2 (mval l p).f3 (mval l p).f0 (mval l p).f1 (mval l p).f2 (mval l p).f3).bind fun t303 => (some t303)) (fun k => ?_) (Ev.bind (f := fun k t => some t) (same_ev _ _ _ _ hm hg) (Ev.now _))
    rw [doorkeeperlaw22_AclParents.l0, if_neg (by omega)]
    simp only [acl_Match.f, Option.bind_some, mval_below l p n hne]
  | d + 1, i, hd, hi, hne => by
    have hw : wrap64 ((i : Int) + 1) = ((i + 1 : Nat) : Int) := by rw [w64 (by omega) (by omega)]; omega
    have hi' : i < l.length := by omega
    have go : l[i].f0 ≠ p ++ [n] → Ev (fun k => doorkeeperlaw22_AclParents.l0 k l p (p ++ [n]) (i + 1 : Nat)) true := fun h => parents_l0 l p n hl hx hm hg d (i + 1) (by omega) (by omega) (fun x hx => by
      rw [List.take_succ_eq_append_getElem hi'] at hx
      rcases List.mem_append.1 hx with h1 | h1
      · exact hne x h1
      · rw [List.mem_singleton.1 h1]; exact h)
    by_cases c1 : ((l[i].f0).length : Int) = ((p ++ [n]).length : Int)
    · refine Ev.step (f := fun k => (doorkeeperref09_Texts.f k l[i].f0 (p ++ [n])).bind fun t286 => (if t286 = true then (some true) else (doorkeeperlaw22_AclParents.l0 k l p (p ++ [n]) (i + 1 : Nat)))) (fun k => ?_) ?_
      · rw [doorkeeperlaw22_AclParents.l0, if_pos (by omega), if_pos (by omega), rd30 l i hi', if_pos c1, hw]
      · refine Ev.bind (f := fun k t => _) (texts_eq _ _ (hx _ (List.getElem_mem hi'))) ?_
        by_cases he : l[i].f0 = p ++ [n]
        · rw [decide_eq_true he]
          exact Ev.now _
        · rw [decide_eq_false he]
          simp only [Bool.false_eq_true, if_false]
          exact go he
    · refine Ev.step (fun k => ?_) (go (fun h => c1 (by rw [h])))
      rw [doorkeeperlaw22_AclParents.l0, if_pos (by omega), if_pos (by omega), rd30 l i hi', if_neg c1, hw]

theorem parents_ev (l : List S30) (p : List ByteArray) (n : ByteArray) (hl : l.length ≤ 9223372036854775807) (hp : p.length ≤ 9223372036854775807) (hx : ∀ x ∈ l, x.f0.length ≤ 9223372036854775807) (hm : (mval l p).f0.length ≤ 9223372036854775807) (hg : (mval l p).f1.length ≤ 9223372036854775807) :
    Ev (fun k => doorkeeperlaw22_AclParents.f k l p n) true := by
  obtain ⟨b, hb⟩ := few22_ev l hl
  obtain ⟨c, hc, h30⟩ := few16_ev p hp
  have jt : Ev (fun k => doorkeeperlaw22_AclParents.j0 k l p n true) true := Ev.step (fun k => by rw [doorkeeperlaw22_AclParents.j0]; rfl) (Ev.now true)
  unfold doorkeeperlaw22_AclParents.f doorkeeperlaw22_awake.f
  simp only [Option.bind_some, if_true]
  refine Ev.bind (f := fun k t => _) hb ?_
  cases b
  · simp only [Bool.false_eq_true, if_false]
    exact jt
  · simp only [if_true]
    refine Ev.bind (f := fun k t => _) hc ?_
    cases c
    · simp only [Bool.false_eq_true, if_false]
      exact jt
    · simp only [if_true]
      have h31 := h30 rfl
      generalize decide ((n.size : Int) > 60) = x
      cases x
      · refine Ev.step (fun k => ?_) (parents_l0 l p n hl hx hm hg l.length 0 (by omega) (by omega) (by simp))
        rw [doorkeeperlaw22_AclParents.j0]
        simp only [Option.bind_some, Bool.false_eq_true, if_false, List.length_nil, List.nil_append]
        rw [if_pos (by omega), if_pos (by omega)]
        rfl
      · exact jt
end Go.Proofs.YtjapmlfjlojbeaaDoor.PA
