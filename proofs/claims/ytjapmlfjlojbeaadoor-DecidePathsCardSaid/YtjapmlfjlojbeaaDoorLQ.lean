/- The plain law DecidePaths: a decision is Allow or MethodNo exactly if the path may be read. Conditions: the lists are no longer than a slice may be. -/
import Derived.Test.YtjapmlfjlojbeaaDoorPDq
import Derived.Test.YtjapmlfjlojbeaaDoorHB
import Derived.Test.YtjapmlfjlojbeaaDoorRD
namespace Go.Proofs.YtjapmlfjlojbeaaDoor.PA
open Go.RowKit Go.Proofs.YtjapmlfjlojbeaaDoorW.PrintWords Go.Proofs.YtjapmlfjlojbeaaDoorW.PrintLast Go.Proofs.YtjapmlfjlojbeaaDoorW.PrintMore
set_option linter.unusedVariables false
set_option linter.unusedSimpArgs false

theorem few22q_l0 (l : List S30) (hl : l.length ≤ 9223372036854775807) : ∀ d i : Nat, l.length - i = d → i ≤ l.length → ∃ b, Ev (fun k => doorkeeperref22_Few.l0 k l i) b
  | 0, i, hd, hi => ⟨_, Ev.step (fun k => by rw [doorkeeperref22_Few.l0, if_neg (by omega)]) (Ev.now _)⟩
  | d + 1, i, hd, hi => by
    obtain ⟨b, hb⟩ := few22q_l0 l hl d (i + 1) (by omega) (by omega)
    have hw : wrap64 ((i : Int) + 1) = ((i + 1 : Nat) : Int) := by rw [w64 (by omega) (by omega)]; omega
    by_cases c1 : (((rd_T30 l i).f0).length : Int) > 10
    · exact ⟨false, Ev.step (fun k => by rw [doorkeeperref22_Few.l0, if_pos (by omega), if_pos (by omega), if_pos c1]) (Ev.now _)⟩
    · by_cases c2 : (((rd_T30 l i).f1).length : Int) > 10
      · exact ⟨false, Ev.step (fun k => by rw [doorkeeperref22_Few.l0, if_pos (by omega), if_pos (by omega), if_neg c1, if_pos c2]) (Ev.now _)⟩
      · exact ⟨b, Ev.step (fun k => by rw [doorkeeperref22_Few.l0, if_pos (by omega), if_pos (by omega), if_neg c1, if_neg c2, hw]) hb⟩
theorem few22q_ev (l : List S30) (hl : l.length ≤ 9223372036854775807) : ∃ b, Ev (fun k => doorkeeperref22_Few.f k l) b := few22q_l0 l hl l.length 0 (by omega) (by omega)

theorem few16q_l0 (l : List ByteArray) (hl : l.length ≤ 9223372036854775807) : ∀ d i : Nat, l.length - i = d → i ≤ l.length → ∃ b, Ev (fun k => doorkeeperref16_Few.l0 k l i) b ∧ (b = true → l.length ≤ 30)
  | 0, i, hd, hi => ⟨_, Ev.step (fun k => by rw [doorkeeperref16_Few.l0, if_neg (by omega)]) (Ev.now _), fun h => by have := of_decide_eq_true h; omega⟩
  | d + 1, i, hd, hi => by
    obtain ⟨b, hb, h30⟩ := few16q_l0 l hl d (i + 1) (by omega) (by omega)
    have hw : wrap64 ((i : Int) + 1) = ((i + 1 : Nat) : Int) := by rw [w64 (by omega) (by omega)]; omega
    by_cases c1 : ((rdOf ByteArray.empty l i).size : Int) > 100
    · exact ⟨false, Ev.step (fun k => by rw [doorkeeperref16_Few.l0, if_pos (by omega), if_pos (by omega), if_pos c1]) (Ev.now _), fun h => by cases h⟩
    · exact ⟨b, Ev.step (fun k => by rw [doorkeeperref16_Few.l0, if_pos (by omega), if_pos (by omega), if_neg c1, hw]) hb, h30⟩
theorem few16q_ev (l : List ByteArray) (hl : l.length ≤ 9223372036854775807) : ∃ b, Ev (fun k => doorkeeperref16_Few.f k l) b ∧ (b = true → l.length ≤ 30) := few16q_l0 l hl l.length 0 (by omega) (by omega)

theorem c50 : Tryd.prog.cellsOf 50 = 3 := by kernel_rfl
theorem c22 : Tryd.prog.cellsOf 22 = 1 := by kernel_rfl
theorem rd_host {H : Type} {enc : TypeId × Value → H} {w : World} {base : Nat} {spare : Nat → Bool} {held : Bool} {n : Nat} {cs : List Value} {y : DataW H × List MemPlace} (h : DataW.trod enc Tryd.prog w base spare held n 50 cs = some y) :
    ∃ (A0 : Option Addr) (k0 : Nat) (l0 : List ByteArray) (A1 : Option Addr) (k1 : Nat) (l1 : List ByteArray) (A2 : Option Addr) (k2 : Nat) (l2 : List S30), cs = [.slice A0 l0.length k0, .slice A1 l1.length k1, .slice A2 l2.length k2] ∧ l0.length ≤ k0 ∧ Kd.C Kd.string w A0 l0.length l0 ∧ l1.length ≤ k1 ∧ Kd.C Kd.string w A1 l1.length l1 ∧ l2.length ≤ k2 ∧ Kd.C k30 w A2 l2.length l2 := by
  obtain ⟨y0, y1, y2, m, _, hl, h0, h1, h2⟩ := Go.Deep.trod_struct3 Tryd.underlying50 h
  rw [c50] at hl
  obtain ⟨a, b, c, rfl⟩ := list3 hl
  simp only [c23, c22, List.drop_zero, List.drop_succ_cons, List.take_succ_cons, List.take_zero] at h0 h1 h2
  obtain ⟨A0, k0, l0, e0, hk0, hC0⟩ := rd_strs h0
  obtain ⟨A1, k1, l1, e1, hk1, hC1⟩ := rd_strs h1
  obtain ⟨A2, k2, l2, e2, hk2, hC2⟩ := rd_rules h2
  simp only [List.cons.injEq, and_true] at e0 e1 e2
  subst e0 e1 e2
  exact ⟨A0, k0, l0, A1, k1, l1, A2, k2, l2, rfl, hk0, hC0, hk1, hC1, hk2, hC2⟩

theorem granted_opt (g : List S39) (s m : ByteArray) (h : granted g s m = true) : granted g s OPTIONS = true := by
  have ho := granted_or g s
  unfold granted at h
  split at h
  · rw [ho, granted_get, h]
    rfl
  · split at h
    · rw [ho, granted_head, h]
      simp
    · split at h
      · rw [granted_options, h]
      · cases h
theorem meths_opt (g : List S39) (s : ByteArray) : ((meths g s).length : Int) > 0 ↔ granted g s OPTIONS = true := by
  have ho := granted_or g s
  constructor
  · intro h
    have h1 : meths g s ≠ [] := fun e => by rw [e] at h; simp at h
    obtain ⟨m, hm⟩ := List.exists_mem_of_ne_nil _ h1
    exact granted_opt g s m (List.mem_filter.1 hm).2
  · intro h
    have : OPTIONS ∈ meths g s := List.mem_filter.2 ⟨by simp, h⟩
    have := List.length_pos_of_mem this
    omega
theorem seen (g : List S39) (b : Bool) (rl s m : ByteArray) : granted g s OPTIONS = (decide ((byv g b rl s m).1 = 1) || (byv g b rl s m).1 == 4) := by
  unfold byv
  by_cases h1 : granted g s m = true
  · rw [if_pos h1, granted_opt g s m h1]
    rfl
  · rw [if_neg h1]
    by_cases h2 : ((meths g s).length : Int) > 0
    · rw [if_pos h2, (meths_opt g s).1 h2]
      rfl
    · rw [if_neg h2]
      have h3 : granted g s OPTIONS = false := by
        cases hh : granted g s OPTIONS
        · rfl
        · exact absurd ((meths_opt g s).2 hh) h2
      rw [h3]
      repeat' split
      all_goals rfl

theorem aFor_ev (n0 n1 : List ByteArray) (l : List S30) (p : List ByteArray) (s m : ByteArray) : Ev (fun k => decide_For.f k n0 n1 l p s m) (byv (mval l p).f1 (mval l p).f2 (mval l p).f3 s m) :=
  ⟨4, fun k hk => by obtain ⟨j, rfl⟩ : ∃ j, k = j + 4 := ⟨k - 4, by omega⟩; exact aFor j n0 n1 l p s m⟩
theorem rFor_ev (n0 n1 : List ByteArray) (l : List S30) (p : List ByteArray) (s m : ByteArray) : Ev (fun k => doorkeeperref23_For.f k n0 n1 l p s m) (byv (mval l p).f1 (mval l p).f2 (mval l p).f3 s m) :=
  ⟨4, fun k hk => by obtain ⟨j, rfl⟩ : ∃ j, k = j + 4 := ⟨k - 4, by omega⟩; exact rFor j n0 n1 l p s m⟩

theorem paths_ev (n0 n1 : List ByteArray) (l : List S30) (p : List ByteArray) (s m : ByteArray) (hl : l.length ≤ 9223372036854775807) (hp : p.length ≤ 9223372036854775807) : Ev (fun k => doorkeeperlaw23_DecidePaths.f k n0 n1 l p s m) true := by
  obtain ⟨b, hb⟩ := few22q_ev l hl
  obtain ⟨c, hc, _⟩ := few16q_ev p hp
  have jt : Ev (fun k => doorkeeperlaw23_DecidePaths.j0 k p s m true n0 n1 l) true := Ev.step (fun k => by rw [doorkeeperlaw23_DecidePaths.j0]; rfl) (Ev.now true)
  have jf : Ev (fun k => doorkeeperlaw23_DecidePaths.j0 k p s m false n0 n1 l) true := by
    refine Ev.step (f := fun k => (decide_For.f k n0 n1 l p s m).bind fun bt375 => ((decide_Sees.f k n0 n1 l p s).bind fun t381 => ((doorkeeperref23_For.f k n0 n1 l p s m).bind fun bt382 => ((doorkeeperref23_Same.f k bt375.1 bt375.2.1 bt375.2.2 bt382.1 bt382.2.1 bt382.2.2).bind fun t387 => (if t387 = true then ((doorkeeperref22_Readable.f k l p s).bind fun t388 => (if (t381 != t388) = true then (some false) else (if bt375.1 = 1 then (some (t381 == true)) else (some (t381 == (bt375.1 == 4)))))) else (some false)))))) (fun k => by rw [doorkeeperlaw23_DecidePaths.j0]; simp only [Bool.false_eq_true, if_false]) ?_
    refine Ev.bind (f := fun k t => _) (aFor_ev _ _ _ _ _ _) ?_
    simp only [aSees, Option.bind_some]
    refine Ev.bind (f := fun k t => _) (rFor_ev _ _ _ _ _ _) ?_
    refine Ev.bind (f := fun k t => if t = true then ((doorkeeperref22_Readable.f k l p s).bind fun t388 => (if (granted (mval l p).f1 s OPTIONS != t388) = true then (some false) else (if (byv (mval l p).f1 (mval l p).f2 (mval l p).f3 s m).1 = 1 then (some (granted (mval l p).f1 s OPTIONS == true)) else (some (granted (mval l p).f1 s OPTIONS == ((byv (mval l p).f1 (mval l p).f2 (mval l p).f3 s m).1 == 4)))))) else some false) (same23_ev _ _ _ (byv_len _ _ _ _ _)) ?_
    simp only [if_true, rRead, Option.bind_some, bne_self_eq_false, Bool.false_eq_true, if_false]
    have hs := seen (mval l p).f1 (mval l p).f2 (mval l p).f3 s m
    by_cases h1 : (byv (mval l p).f1 (mval l p).f2 (mval l p).f3 s m).1 = 1
    · simp only [if_pos h1]
      rw [hs, decide_eq_true h1]
      exact Ev.now _
    · simp only [if_neg h1]
      rw [hs, decide_eq_false h1]
      simp only [Bool.false_or, beq_self_eq_true]
      exact Ev.now _
  unfold doorkeeperlaw23_DecidePaths.f doorkeeperlaw23_awake.f
  simp only [Option.bind_some, if_true]
  refine Ev.bind (f := fun k t => _) hb ?_
  cases b
  · simp only [Bool.false_eq_true, if_false]
    exact jt
  · simp only [if_true]
    refine Ev.bind (f := fun k t => _) hc ?_
    cases c
    · simp only [Bool.false_eq_true, if_false]
      exact jt
    · simp only [if_true]
      by_cases h60 : (s.size : Int) > 60
      · simp only [if_pos h60]
        exact jt
      · simp only [if_neg h60]
        generalize decide ((m.size : Int) > 60) = x
        cases x
        · exact jf
        · exact jt
end Go.Proofs.YtjapmlfjlojbeaaDoor.PA
