/- The plain law AclMatches: what both Match and both Readable return is the same. Conditions: the lists are no longer than a slice may be. -/
import Derived.Test.YtjapmlfjlojbeaaDoorPDm
import Derived.Test.YtjapmlfjlojbeaaDoorHQ
namespace Go.Proofs.YtjapmlfjlojbeaaDoor.PA
open Go.RowKit Go.Proofs.YtjapmlfjlojbeaaDoorW.PrintWords Go.Proofs.YtjapmlfjlojbeaaDoorW.PrintLast Go.Proofs.YtjapmlfjlojbeaaDoorW.PrintMore
set_option linter.unusedVariables false
set_option linter.unusedSimpArgs false

theorem few22_l0 (l : List S30) (hl : l.length ≤ 9223372036854775807) : ∀ d i : Nat, l.length - i = d → i ≤ l.length → ∃ b, Ev (fun k => doorkeeperref22_Few.l0 k l i) b
  | 0, i, hd, hi => ⟨_, Ev.step (fun k => by rw [doorkeeperref22_Few.l0, if_neg (by omega)]) (Ev.now _)⟩
  | d + 1, i, hd, hi => by
    obtain ⟨b, hb⟩ := few22_l0 l hl d (i + 1) (by omega) (by omega)
    have hw : wrap64 ((i : Int) + 1) = ((i + 1 : Nat) : Int) := by rw [w64 (by omega) (by omega)]; omega
    by_cases c1 : (((rd_T30 l i).f0).length : Int) > 10
    · exact ⟨false, Ev.step (fun k => by rw [doorkeeperref22_Few.l0, if_pos (by omega), if_pos (by omega), if_pos c1]) (Ev.now _)⟩
    · by_cases c2 : (((rd_T30 l i).f1).length : Int) > 10
      · exact ⟨false, Ev.step (fun k => by rw [doorkeeperref22_Few.l0, if_pos (by omega), if_pos (by omega), if_neg c1, if_pos c2]) (Ev.now _)⟩
      · exact ⟨b, Ev.step (fun k => by rw [doorkeeperref22_Few.l0, if_pos (by omega), if_pos (by omega), if_neg c1, if_neg c2, hw]) hb⟩
theorem few22_ev (l : List S30) (hl : l.length ≤ 9223372036854775807) : ∃ b, Ev (fun k => doorkeeperref22_Few.f k l) b := few22_l0 l hl l.length 0 (by omega) (by omega)

theorem few16_l0 (l : List ByteArray) (hl : l.length ≤ 9223372036854775807) : ∀ d i : Nat, l.length - i = d → i ≤ l.length → ∃ b, Ev (fun k => doorkeeperref16_Few.l0 k l i) b ∧ (b = true → l.length ≤ 30)
  | 0, i, hd, hi => ⟨_, Ev.step (fun k => by rw [doorkeeperref16_Few.l0, if_neg (by omega)]) (Ev.now _), fun h => by have := of_decide_eq_true h; omega⟩
  | d + 1, i, hd, hi => by
    obtain ⟨b, hb, h30⟩ := few16_l0 l hl d (i + 1) (by omega) (by omega)
    have hw : wrap64 ((i : Int) + 1) = ((i + 1 : Nat) : Int) := by rw [w64 (by omega) (by omega)]; omega
    by_cases c1 : ((rdOf ByteArray.empty l i).size : Int) > 100
    · exact ⟨false, Ev.step (fun k => by rw [doorkeeperref16_Few.l0, if_pos (by omega), if_pos (by omega), if_pos c1]) (Ev.now _), fun h => by cases h⟩
    · exact ⟨b, Ev.step (fun k => by rw [doorkeeperref16_Few.l0, if_pos (by omega), if_pos (by omega), if_neg c1, hw]) hb, h30⟩
theorem few16_ev (l : List ByteArray) (hl : l.length ≤ 9223372036854775807) : ∃ b, Ev (fun k => doorkeeperref16_Few.f k l) b ∧ (b = true → l.length ≤ 30) := few16_l0 l hl l.length 0 (by omega) (by omega)

theorem same_l0 (p : List ByteArray) (g : List S39) (b : Bool) (rl : ByteArray) (hl : g.length ≤ 9223372036854775807) : ∀ d i : Nat, g.length - i = d → i ≤ g.length → Ev (fun k => doorkeeperref20_SameRule.l0 k i p g b rl p g b rl) true
  | 0, i, hd, hi => Ev.step (fun k => by rw [doorkeeperref20_SameRule.l0, if_neg (by omega)]) (Ev.now _)
  | d + 1, i, hd, hi => by
    have hb := same_l0 p g b rl hl d (i + 1) (by omega) (by omega)
    have hw : wrap64 ((i : Int) + 1) = ((i + 1 : Nat) : Int) := by rw [w64 (by omega) (by omega)]; omega
    refine Ev.step (fun k => ?_) hb
    rw [doorkeeperref20_SameRule.l0, if_pos (by omega), if_pos (by omega), if_pos (by omega), if_neg (by simp), hw]
theorem same_ev (p : List ByteArray) (g : List S39) (b : Bool) (rl : ByteArray) (hp : p.length ≤ 9223372036854775807) (hl : g.length ≤ 9223372036854775807) : Ev (fun k => doorkeeperref20_SameRule.f k p g b rl p g b rl) true := by
  unfold doorkeeperref20_SameRule.f
  refine Ev.bind (f := fun k t => _) (texts_eq p p hp) ?_
  rw [decide_eq_true rfl]
  simp only [if_true, bne_self_eq_false, Bool.false_eq_true, if_false]
  refine Ev.step (f := fun k => doorkeeperref20_SameRule.l0 k 0 p g b rl p g b rl) (fun k => ?_) (same_l0 p g b rl hl g.length 0 (by omega) (by omega))
  rw [doorkeeperref20_SameRule.j0]
  simp

theorem matches_j0 (l : List S30) (p : List ByteArray) (s : ByteArray) (hm : (mval l p).f0.length ≤ 9223372036854775807) (hg : (mval l p).f1.length ≤ 9223372036854775807) (x : Bool) : Ev (fun k => doorkeeperlaw22_AclMatches.j0 k l p s x) true := by
  cases x
  · refine Ev.step (f := fun k => (doorkeeperref20_SameRule.f k (mval l p).f0 (mval l p).f1 (mval l p).f2 (mval l p).f3 (mval l p).f0 (mval l p).f1 (mval l p).f2 (mval l p).f3).bind fun t => if t = true then some true else some false) (fun k => ?_) (Ev.bind (f := fun k t => if t = true then some true else some false) (same_ev _ _ _ _ hm hg) (Ev.now _))
    rw [doorkeeperlaw22_AclMatches.j0]
    simp only [acl_Match.f, doorkeeperref22_Match.f, Option.bind_some, aRead, rRead, Bool.false_eq_true, if_false, beq_self_eq_true]
  · exact Ev.step (fun k => by rw [doorkeeperlaw22_AclMatches.j0]; rfl) (Ev.now true)

theorem matches_ev (l : List S30) (p : List ByteArray) (s : ByteArray) (hl : l.length ≤ 9223372036854775807) (hp : p.length ≤ 9223372036854775807) (hm : (mval l p).f0.length ≤ 9223372036854775807) (hg : (mval l p).f1.length ≤ 9223372036854775807) : Ev (fun k => doorkeeperlaw22_AclMatches.f k l p s) true := by
  obtain ⟨b, hb⟩ := few22_ev l hl
  obtain ⟨c, hc, _⟩ := few16_ev p hp
  unfold doorkeeperlaw22_AclMatches.f doorkeeperlaw22_awake.f
  simp only [Option.bind_some, if_true]
  refine Ev.bind (f := fun k t => _) hb ?_
  cases b
  · simp only [Bool.false_eq_true, if_false]
    exact matches_j0 l p s hm hg true
  · simp only [if_true]
    refine Ev.bind (f := fun k t => _) hc ?_
    cases c
    · simp only [Bool.false_eq_true, if_false]
      exact matches_j0 l p s hm hg true
    · simp only [if_true]
      exact matches_j0 l p s hm hg _

theorem best_mem (path : List ByteArray) : ∀ (l : List S30) (most : Int) (out : S30), bestGo path l most out = out ∨ bestGo path l most out ∈ l
  | [], _, _ => .inl rfl
  | x :: l, most, out => by
    unfold bestGo
    split
    · rcases best_mem path l (score x path) x with h | h
      · exact .inr (by rw [h]; exact List.mem_cons_self)
      · exact .inr (List.mem_cons_of_mem _ h)
    · rcases best_mem path l most out with h | h
      · exact .inl h
      · exact .inr (List.mem_cons_of_mem _ h)
theorem elem_bound {w : World} {A : Option Addr} {l : List S30} (h : Kd.C k30 w A l.length l) (x : S30) (hx : x ∈ l) : x.f0.length ≤ 9223372036854775807 ∧ x.f1.length ≤ 9223372036854775807 := by
  obtain ⟨i, hi, rfl⟩ := List.getElem_of_mem hx
  obtain ⟨ad, cs, _, _, hK, _⟩ := Kd.C_get h z30 (i : Int) (by omega) (by omega)
  have e : l.getD (i : Int).toNat z30 = l[i] := by simp [List.getD_eq_getElem?_getD, List.getElem?_eq_getElem hi]
  rw [e] at hK
  obtain ⟨A0, c0, A1, c1, _, _, h0, _, h1⟩ := k30_open hK
  exact ⟨h0.2.1, h1.2.1⟩
theorem mval_bound {w : World} {A : Option Addr} {l : List S30} (h : Kd.C k30 w A l.length l) (p : List ByteArray) : (mval l p).f0.length ≤ 9223372036854775807 ∧ (mval l p).f1.length ≤ 9223372036854775807 := by
  rcases best_mem p l (-1) z30 with e | e
  · have e' : mval l p = z30 := e
    rw [e']
    exact ⟨by decide, by decide⟩
  · exact elem_bound h _ e
end Go.Proofs.YtjapmlfjlojbeaaDoor.PA
