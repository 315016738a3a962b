/- The reference's Granted in plain words; the contracts of both Granted in the form that the printed callers want. Conditions: those of the contracts' statements. -/
import Derived.Test.YtjapmlfjlojbeaaDoorHG
import Derived.Test.YtjapmlfjlojbeaaDoorPBd
namespace Go.Proofs.YtjapmlfjlojbeaaDoor.PA
open Go.RowKit Go.Proofs.YtjapmlfjlojbeaaDoorW.PrintWords Go.Proofs.YtjapmlfjlojbeaaDoorW.PrintLast Go.Proofs.YtjapmlfjlojbeaaDoorW.PrintMore
set_option linter.unusedVariables false
set_option linter.unusedSimpArgs false

def gfin (m : ByteArray) (g h : Bool) : Bool := if m = GET then g else if m = HEAD then h else if m = OPTIONS then g || h else false
theorem list_iff (m : ByteArray) (a : Array UInt8) : (m.toList = a.toList) ↔ m = ⟨a⟩ := by
  rw [ByteArray.toList_eq]
  constructor
  · intro h
    exact ByteArray.ext (Array.toList_inj.mp h)
  · rintro rfl
    rfl

theorem refGranted0_step (k : Nat) (s m : ByteArray) (g h : Bool) (i : Int) (a0 : List ByteArray) (l : List S39) (b : Bool) (rl : ByteArray) (hi : i < (l.length : Int)) (h0 : 0 ≤ i) :
    refGranted0.l0 (k + 1) s m g h i a0 l b rl = if appl (rd_T39 l i) s then refGranted0.l0 k s m (g || (rd_T39 l i).f1) (h || (rd_T39 l i).f2) (wrap64 (i + 1)) a0 l b rl else refGranted0.l0 k s m g h (wrap64 (i + 1)) a0 l b rl := by
  rw [refGranted0.l0, if_pos hi, if_pos h0]
  generalize rd_T39 l i = x
  unfold appl
  by_cases c1 : x.f0.toList = ([] : List UInt8)
  · rw [if_pos c1, if_pos c1]
    cases g <;> cases h <;> simp
  · rw [if_neg c1, if_neg c1]
    by_cases c2 : s.toList = ([] : List UInt8)
    · rw [if_pos c2, c2]
      by_cases c3 : x.f0.toList = ([42] : List UInt8)
      · simp [c3]
      · simp [c3, c1]
    · rw [if_neg c2]
      by_cases c3 : x.f0.toList = ([42] : List UInt8)
      · rw [if_pos c3, if_pos c3]
        have : (s.toList != ([] : List UInt8)) = true := bne_iff_ne.mpr c2
        rw [this]
        cases g <;> cases h <;> simp
      · rw [if_neg c3, if_neg c3]
        by_cases c4 : x.f0.toList = s.toList
        · rw [if_pos c4, beq_iff_eq.mpr c4]
          cases g <;> cases h <;> simp
        · rw [if_neg c4, beq_eq_false_iff_ne.mpr c4]
          simp

theorem refGranted0_end (k : Nat) (s m : ByteArray) (g h : Bool) (i : Int) (a0 : List ByteArray) (l : List S39) (b : Bool) (rl : ByteArray) (hi : ¬ i < (l.length : Int)) :
    refGranted0.l0 (k + 1) s m g h i a0 l b rl = some (gfin m g h) := by
  rw [refGranted0.l0, if_neg hi]
  unfold gfin
  have e1 := list_iff m #[71, 69, 84]
  have e2 := list_iff m #[72, 69, 65, 68]
  have e3 := list_iff m #[79, 80, 84, 73, 79, 78, 83]
  simp only at e1 e2 e3
  simp only [e1, e2, e3]
  unfold GET HEAD OPTIONS
  by_cases c1 : m = ⟨#[71, 69, 84]⟩
  · subst c1
    cases g <;> cases h <;> simp
  · by_cases c2 : m = ⟨#[72, 69, 65, 68]⟩
    · subst c2
      cases g <;> cases h <;> simp
    · by_cases c3 : m = ⟨#[79, 80, 84, 73, 79, 78, 83]⟩
      · subst c3
        cases g <;> cases h <;> simp
      · simp [c1, c2, c3]

theorem refGranted0_loop (s m : ByteArray) (a0 : List ByteArray) (l : List S39) (b : Bool) (rl : ByteArray) (hl : l.length ≤ 9223372036854775807) : ∀ (n i : Nat) (g h : Bool), l.length - i = n → i ≤ l.length →
    refGranted0.l0 (n + 1) s m g h i a0 l b rl = some (gfin m (g || (l.drop i).any fun x => appl x s && x.f1) (h || (l.drop i).any fun x => appl x s && x.f2))
  | 0, i, g, h, hn, hi => by
    rw [refGranted0_end _ _ _ _ _ _ _ _ _ _ (by omega), List.drop_of_length_le (by omega)]
    simp
  | n + 1, i, g, h, hn, hi => by
    have hx : rd_T39 l (i : Int) = l[i]'(by omega) := by simp [rd_T39, List.getD_eq_getElem?_getD, List.getElem?_eq_getElem (show i < l.length by omega)]
    have hd : l.drop i = l[i]'(by omega) :: l.drop (i + 1) := List.drop_eq_getElem_cons (by omega)
    have hw : wrap64 ((i : Int) + 1) = ((i + 1 : Nat) : Int) := by rw [w64 (by omega) (by omega)]; omega
    rw [refGranted0_step _ _ _ _ _ _ _ _ _ _ (by omega) (by omega), hx, hw, refGranted0_loop s m a0 l b rl hl n (i + 1) _ _ (by omega) (by omega), refGranted0_loop s m a0 l b rl hl n (i + 1) _ _ (by omega) (by omega), hd]
    cases ha : appl (l[i]'(by omega)) s
    · simp only [List.any_cons, ha, Bool.false_and, Bool.false_or, Bool.false_eq_true, if_false]
    · simp only [List.any_cons, ha, Bool.true_and, Bool.or_assoc, if_true]

theorem gfin_granted (l : List S39) (s m : ByteArray) : gfin m (l.any fun x => appl x s && x.f1) (l.any fun x => appl x s && x.f2) = granted l s m := by
  unfold gfin
  by_cases c1 : m = GET
  · subst c1
    rw [if_pos rfl]
    rfl
  · rw [if_neg c1]
    by_cases c2 : m = HEAD
    · subst c2
      rw [if_pos rfl]
      rfl
    · rw [if_neg c2]
      by_cases c3 : m = OPTIONS
      · subst c3
        rw [if_pos rfl]
        have : granted l s OPTIONS = l.any fun x => appl x s && (x.f1 || x.f2) := rfl
        rw [this]
        clear this c1 c2
        induction l with
        | nil => rfl
        | cons x l ih =>
          simp only [List.any_cons, ← ih]
          cases appl x s <;> cases x.f1 <;> cases x.f2 <;> simp
      · rw [if_neg c3]
        unfold granted
        have h1 : kindOf m ≠ 1 := by unfold kindOf; rw [if_neg c1, if_neg c2, if_neg c3]; (repeat' split) <;> decide
        have h2 : kindOf m ≠ 2 := by unfold kindOf; rw [if_neg c1, if_neg c2, if_neg c3]; (repeat' split) <;> decide
        have h3 : kindOf m ≠ 3 := by unfold kindOf; rw [if_neg c1, if_neg c2, if_neg c3]; (repeat' split) <;> decide
        rw [if_neg h1, if_neg h2, if_neg h3]

def doorkeeperref22_Granted.f (k : Nat) (l0_0 : List ByteArray) (l0_1 : List (S39)) (a0_2 : Bool) (a0_3 : ByteArray) (a1 : ByteArray) (a2 : ByteArray) : Option (Bool) := some (granted l0_1 a1 a2)
theorem doorkeeperref22_Granted.mono : ∀ a0 a1 a2 a3 a4 a5 k, LeO (doorkeeperref22_Granted.f k a0 a1 a2 a3 a4 a5) (doorkeeperref22_Granted.f (k + 1) a0 a1 a2 a3 a4 a5) := fun _ _ _ _ _ _ _ => LeO.refl _
theorem doorkeeperref22_Granted.calls (k : Nat) (A0_0 : Option Addr) (c0_0 : Nat) (l0_0 : List ByteArray) (A0_1 : Option Addr) (c0_1 : Nat) (l0_1 : List (S39)) (a0_2 : Bool) (a0_3 : ByteArray) (a1 : ByteArray) (a2 : ByteArray) (r : Bool) (w : World) (hr0_0 : Kd.C Kd.string w A0_0 l0_0.length l0_0) (hc0_0 : l0_0.length ≤ c0_0) (hr0_1 : Kd.C k39 w A0_1 l0_1.length l0_1) (hc0_1 : l0_1.length ≤ c0_1) (h : doorkeeperref22_Granted.f k l0_0 l0_1 a0_2 a0_3 a1 a2 = some r) :
    Calls Tryd.prog 21 #[.agg #[.slice A0_0 l0_0.length c0_0, .slice A0_1 l0_1.length c0_1, .bool a0_2, .string a0_3], .string a1, .string a2] w fun e w' => e = .returned (.bool r) ∧ Below w.heap.size w w' := by
  obtain rfl := Option.some.inj h
  refine refGranted0.calls (l0_1.length + 1) A0_0 c0_0 l0_0 A0_1 c0_1 l0_1 a0_2 a0_3 a1 a2 _ w hr0_0 hc0_0 hr0_1 hc0_1 ?_
  unfold refGranted0.f
  have h := refGranted0_loop a1 a2 l0_0 l0_1 a0_2 a0_3 (by have := hr0_1.2.1; omega) l0_1.length 0 false false (by omega) (by omega)
  simp only [List.drop_zero, Bool.false_or, Int.ofNat_zero, gfin_granted] at h
  exact h

def acl_Granted.f (k : Nat) (l0_0 : List ByteArray) (l0_1 : List (S39)) (a0_2 : Bool) (a0_3 : ByteArray) (a1 : ByteArray) (a2 : ByteArray) : Option (Bool) := some (granted l0_1 a1 a2)
theorem acl_Granted.mono : ∀ a0 a1 a2 a3 a4 a5 k, LeO (acl_Granted.f k a0 a1 a2 a3 a4 a5) (acl_Granted.f (k + 1) a0 a1 a2 a3 a4 a5) := fun _ _ _ _ _ _ _ => LeO.refl _
theorem acl_Granted.calls (k : Nat) (A0_0 : Option Addr) (c0_0 : Nat) (l0_0 : List ByteArray) (A0_1 : Option Addr) (c0_1 : Nat) (l0_1 : List (S39)) (a0_2 : Bool) (a0_3 : ByteArray) (a1 : ByteArray) (a2 : ByteArray) (r : Bool) (w : World) (hr0_0 : Kd.C Kd.string w A0_0 l0_0.length l0_0) (hc0_0 : l0_0.length ≤ c0_0) (hr0_1 : Kd.C k39 w A0_1 l0_1.length l0_1) (hc0_1 : l0_1.length ≤ c0_1) (h : acl_Granted.f k l0_0 l0_1 a0_2 a0_3 a1 a2 = some r) (hL : Laid w) :
    Calls Tryd.prog 20 #[.agg #[.slice A0_0 l0_0.length c0_0, .slice A0_1 l0_1.length c0_1, .bool a0_2, .string a0_3], .string a1, .string a2] w fun e w' => e = .returned (.bool r) ∧ Below w.heap.size w w' := by
  obtain rfl := Option.some.inj h
  exact granted_any A0_0 c0_0 l0_0 A0_1 c0_1 l0_1 a0_2 a0_3 a1 a2 w hr0_1 hL

end Go.Proofs.YtjapmlfjlojbeaaDoor.PA
