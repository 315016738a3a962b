/- How the arguments of these laws are read: a list of rules, a rule, a grant, a list of strings, off what the claim's reader says. No conditions. -/
import Derived.Test.YtjapmlfjlojbeaaDoorHP
import Derived.Deep.Slices
import Derived.Deep.Strs
import Derived.Lib.SmallJoins
namespace Go.Proofs.YtjapmlfjlojbeaaDoor.PA
open Go.RowKit Go.Proofs.YtjapmlfjlojbeaaDoorW.PrintWords Go.Proofs.YtjapmlfjlojbeaaDoorW.PrintLast Go.Proofs.YtjapmlfjlojbeaaDoorW.PrintMore
set_option linter.unusedVariables false
set_option linter.unusedSimpArgs false

/-- A slice is read element by element. -/
theorem kd_slice {α H : Type} {enc : TypeId × Value → H} {w : World} {base : Nat} {spare : Nat → Bool} {held : Bool} {fuel : Nat} {cs : List Value} {y : DataW H × List MemPlace} {t e : TypeId} (d : Kd α) (z : α) (ht : Tryd.prog.underlying t = some (.slice e)) (hz : Tryd.prog.cellsOf e = d.sz)
    (elem : ∀ {n : Nat} {cs : List Value} {y : DataW H × List MemPlace}, DataW.trod enc Tryd.prog w base spare held n e cs = some y → ∃ x : α, d.K w x cs) (h : DataW.trod enc Tryd.prog w base spare held fuel t cs = some y) :
    ∃ (A : Option Addr) (c : Nat) (l : List α), cs = [.slice A l.length c] ∧ l.length ≤ c ∧ Kd.C d w A l.length l := by
  rcases Go.Deep.open_slice ht h with ⟨rfl, _⟩ | ⟨a, len, cap, m, n, D, Pl, rfl, hb, hl, hm, hmm, rfl, hx⟩
  · exact ⟨none, 0, [], rfl, Nat.le_refl _, Kd.C_nil _ _⟩
  · have hlm : len ≤ m := by rw [hmm]; split <;> omega
    have key : ∀ i, i < len → ∃ p : α × List Value, p.2.length = d.sz ∧ d.K w p.1 p.2 ∧ ∀ j, j < d.sz → w.cell? ((a.add (i * d.sz)).add j) = p.2[j]? := fun i hi => by
      obtain ⟨cs', h1, h2⟩ := hx i (by omega)
      obtain ⟨x, hK⟩ := elem h2
      rw [hz] at h1
      obtain ⟨_, h3, h4⟩ := World.cells?_some h1
      exact ⟨(x, cs'), h3, hK, h4⟩
    have : Inhabited (α × List Value) := ⟨(z, [])⟩
    obtain ⟨f, hf⟩ := Go.Deep.choose_lt key
    have hlen : ((List.range len).map fun i => (f i).1).length = len := by simp
    refine ⟨some a, cap, (List.range len).map fun i => (f i).1, by rw [hlen], by rw [hlen]; exact hl, rfl, by rw [hlen]; unfold maxLen at hm; omega, fun _ => ⟨a, rfl, fun j p hj => ?_⟩⟩
    have hjl := (List.getElem?_eq_some_iff.1 hj).1
    rw [hlen] at hjl
    have hp : (f j).1 = p := by simpa [List.getElem?_map, List.getElem?_range hjl] using hj
    obtain ⟨h1, h2, h3⟩ := hf j hjl
    refine ⟨(f j).2, h1, hp ▸ h2, fun i u hu => ?_⟩
    have hil := (List.getElem?_eq_some_iff.1 hu).1
    have h4 := h3 i (by omega)
    rw [hu] at h4
    rw [← h4, Addr.add_add]

theorem rd_str {H : Type} {enc : TypeId × Value → H} {w : World} {base : Nat} {spare : Nat → Bool} {held : Bool} {n : Nat} {cs : List Value} {y : DataW H × List MemPlace} (h : DataW.trod enc Tryd.prog w base spare held n 9 cs = some y) : ∃ x : ByteArray, Kd.string.K w x cs ∧ cs = [.string x] := by
  obtain ⟨s, h, _, _⟩ := DataW.trod_string Tryd.underlying9 h
  exact ⟨s, h ▸ rfl, h⟩
theorem rd_bool {H : Type} {enc : TypeId × Value → H} {w : World} {base : Nat} {spare : Nat → Bool} {held : Bool} {n : Nat} {cs : List Value} {y : DataW H × List MemPlace} (h : DataW.trod enc Tryd.prog w base spare held n 4 cs = some y) : ∃ x : Bool, cs = [.bool x] := by
  obtain ⟨s, h, _⟩ := DataW.trod_bool Tryd.underlying4 h
  exact ⟨s, h⟩
theorem list3 {cs : List Value} (h : cs.length = 3) : ∃ a b c, cs = [a, b, c] := by
  match cs, h with
  | [a, b, c], _ => exact ⟨a, b, c, rfl⟩
theorem list4 {cs : List Value} (h : cs.length = 4) : ∃ a b c d, cs = [a, b, c, d] := by
  match cs, h with
  | [a, b, c, d], _ => exact ⟨a, b, c, d, rfl⟩

theorem c9 : Tryd.prog.cellsOf 9 = 1 := by kernel_rfl
theorem c4 : Tryd.prog.cellsOf 4 = 1 := by kernel_rfl
theorem c23 : Tryd.prog.cellsOf 23 = 1 := by kernel_rfl
theorem c28 : Tryd.prog.cellsOf 28 = 1 := by kernel_rfl
theorem c39 : Tryd.prog.cellsOf 39 = 3 := by kernel_rfl
theorem c30 : Tryd.prog.cellsOf 30 = 4 := by kernel_rfl

/-- A grant. -/
theorem rd_grant {H : Type} {enc : TypeId × Value → H} {w : World} {base : Nat} {spare : Nat → Bool} {held : Bool} {n : Nat} {cs : List Value} {y : DataW H × List MemPlace} (h : DataW.trod enc Tryd.prog w base spare held n 39 cs = some y) : ∃ x : S39, k39.K w x cs := by
  obtain ⟨y0, y1, y2, m, _, hl, h0, h1, h2⟩ := Go.Deep.trod_struct3 Tryd.underlying39 h
  rw [c39] at hl
  obtain ⟨a, b, c, rfl⟩ := list3 hl
  simp only [c9, c4, List.drop_zero, List.drop_succ_cons, List.take_succ_cons, List.take_zero] at h0 h1 h2
  obtain ⟨s, _, e0⟩ := rd_str h0
  obtain ⟨g, e1⟩ := rd_bool h1
  obtain ⟨k, e2⟩ := rd_bool h2
  simp only [List.cons.injEq, and_true] at e0 e1 e2
  subst e0 e1 e2
  exact ⟨⟨s, g, k⟩, k39_mk w ⟨s, g, k⟩⟩

theorem rd_strs {H : Type} {enc : TypeId × Value → H} {w : World} {base : Nat} {spare : Nat → Bool} {held : Bool} {n : Nat} {cs : List Value} {y : DataW H × List MemPlace} (h : DataW.trod enc Tryd.prog w base spare held n 23 cs = some y) :
    ∃ (A : Option Addr) (c : Nat) (l : List ByteArray), cs = [.slice A l.length c] ∧ l.length ≤ c ∧ Kd.C Kd.string w A l.length l :=
  kd_slice Kd.string ByteArray.empty Tryd.underlying23 c9 (fun h => let ⟨x, hx, _⟩ := rd_str h; ⟨x, hx⟩) h
theorem rd_grants {H : Type} {enc : TypeId × Value → H} {w : World} {base : Nat} {spare : Nat → Bool} {held : Bool} {n : Nat} {cs : List Value} {y : DataW H × List MemPlace} (h : DataW.trod enc Tryd.prog w base spare held n 28 cs = some y) :
    ∃ (A : Option Addr) (c : Nat) (l : List S39), cs = [.slice A l.length c] ∧ l.length ≤ c ∧ Kd.C k39 w A l.length l :=
  kd_slice k39 z39 Tryd.underlying28 c39 rd_grant h

/-- A rule. -/
theorem rd_rule {H : Type} {enc : TypeId × Value → H} {w : World} {base : Nat} {spare : Nat → Bool} {held : Bool} {n : Nat} {cs : List Value} {y : DataW H × List MemPlace} (h : DataW.trod enc Tryd.prog w base spare held n 30 cs = some y) :
    ∃ (x : S30) (A0 : Option Addr) (c0 : Nat) (A1 : Option Addr) (c1 : Nat), cs = [.slice A0 x.f0.length c0, .slice A1 x.f1.length c1, .bool x.f2, .string x.f3] ∧ x.f0.length ≤ c0 ∧ Kd.C Kd.string w A0 x.f0.length x.f0 ∧ x.f1.length ≤ c1 ∧ Kd.C k39 w A1 x.f1.length x.f1 := by
  obtain ⟨y0, y1, y2, y3, m, _, hl, h0, h1, h2, h3⟩ := Go.Joins.trod_struct4 Tryd.underlying30 h
  rw [c30] at hl
  obtain ⟨a, b, c, d, rfl⟩ := list4 hl
  simp only [c9, c4, c23, c28, List.drop_zero, List.drop_succ_cons, List.take_succ_cons, List.take_zero] at h0 h1 h2 h3
  obtain ⟨A0, k0, l0, e0, hk0, hC0⟩ := rd_strs h0
  obtain ⟨A1, k1, l1, e1, hk1, hC1⟩ := rd_grants h1
  obtain ⟨g, e2⟩ := rd_bool h2
  obtain ⟨s, _, e3⟩ := rd_str h3
  simp only [List.cons.injEq, and_true] at e0 e1 e2 e3
  subst e0 e1 e2 e3
  exact ⟨⟨l0, l1, g, s⟩, A0, k0, A1, k1, rfl, hk0, hC0, hk1, hC1⟩
theorem rd_rules {H : Type} {enc : TypeId × Value → H} {w : World} {base : Nat} {spare : Nat → Bool} {held : Bool} {n : Nat} {cs : List Value} {y : DataW H × List MemPlace} (h : DataW.trod enc Tryd.prog w base spare held n 22 cs = some y) :
    ∃ (A : Option Addr) (c : Nat) (l : List S30), cs = [.slice A l.length c] ∧ l.length ≤ c ∧ Kd.C k30 w A l.length l :=
  kd_slice k30 z30 Tryd.underlying22 c30 (fun h => by obtain ⟨x, A0, q0, A1, q1, rfl, a1, a2, a3, a4⟩ := rd_rule h; exact ⟨x, k30_mk _ x a1 a2 a3 a4⟩) h

end Go.Proofs.YtjapmlfjlojbeaaDoor.PA
