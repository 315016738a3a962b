/- What the laid variables give the walks; the door's own heap meets it. No conditions. -/
import Derived.Test.YtjapmlfjlojbeaaDoorRD
import Derived.ProofKit
import Derived.LaidMore
import Derived.OpenShut
import Derived.Stop.Joined
import Derived.MakeChecks
namespace Go.Proofs.YtjapmlfjlojbeaaDoor.PA
open Go.RowKit Go.Proofs.YtjapmlfjlojbeaaDoorW.PrintWords Go.Proofs.YtjapmlfjlojbeaaDoorW.PrintLast Go.Proofs.YtjapmlfjlojbeaaDoorW.PrintMore
set_option linter.unusedVariables false
set_option linter.unusedSimpArgs false

theorem rd_arr {H : Type} {enc : TypeId × Value → H} {w : World} {base : Nat} {spare : Nat → Bool} {held : Bool} {fuel n : Nat} {cs : List Value} {t : TypeId} {l : List (List UInt8)} {ps : List MemPlace} (hu : Tryd.prog.underlying t = some (.array n 9)) (hc : Tryd.prog.cellsOf t = n) (hn : l.length = n)
    (h : DataW.trod enc Tryd.prog w base spare held fuel t cs = some (.agg (l.map fun b => .lit (.string b)), ps)) : cs = l.map fun b => Value.string ⟨b.toArray⟩ := by
  obtain ⟨xs, m, _, hx, hlen, hxl, hel⟩ := DataW.trod_array hu h
  simp only [Prod.mk.injEq, DataW.agg.injEq] at hx
  rw [hc] at hlen
  refine List.ext_getElem? fun i => ?_
  by_cases hi : i < n
  · have h1 := hel i hi
    rw [c9, Nat.mul_one, List.getElem?_eq_getElem (by omega)] at h1
    obtain ⟨s, e1, e2, _⟩ := DataW.trod_string Tryd.underlying9 h1
    have e3 : cs[i]? = some (.string s) := by
      have := congrArg List.head? e1
      simpa [List.head?_take, List.head?_drop] using this
    have e4 : (l.map fun b => (DataW.lit (.string b) : DataW H))[i]? = some (.lit (.string s.data.toList)) := by
      rw [hx.1, List.getElem?_map, List.getElem?_eq_getElem (by omega)]
      rw [e2]
      rfl
    rw [List.getElem?_map, List.getElem?_eq_getElem (by omega)] at e4
    simp only [Option.map_some, Option.some.injEq, DataW.lit.injEq, Lit.string.injEq] at e4
    rw [e3, List.getElem?_map, List.getElem?_eq_getElem (by omega), e4]
    rfl
  · rw [List.getElem?_eq_none (by omega), List.getElem?_eq_none (by simp; omega)]

theorem g1 : Tryd.prog.globalNamed "doorkeeper/reqline.others" = some 1 := by kernel_rfl
theorem g0 : Tryd.prog.globalNamed "doorkeeper/decide.names" = some 0 := by kernel_rfl
theorem t1 : (Tryd.prog.globals[1]?).map (·.type) = some 67 := by kernel_rfl
theorem t0 : (Tryd.prog.globals[0]?).map (·.type) = some 63 := by kernel_rfl
theorem c67 : Tryd.prog.cellsOf 67 = 6 := by kernel_rfl
theorem c63 : Tryd.prog.cellsOf 63 = 5 := by kernel_rfl

theorem var_blk {W : World} {n : String} {g : Nat} {cs : Array Value} (hg : Tryd.prog.globalNamed n = some g) (hv : World.var? Tryd.prog W n = some cs) : ∃ t fr, W.heap[g]? = some (.cells cs t fr) := by
  unfold World.var? at hv
  rw [hg] at hv
  simp only [Option.bind_eq_bind, Option.bind_some] at hv
  split at hv
  · rename_i c t fr he
    cases hv
    exact ⟨t, fr, he⟩
  · cases hv

theorem of_laid {W : World} (h : laidMetH Tryd.prog [("doorkeeper/reqline.others", Rows.laid_doorkeeper_reqline_others)] W) : Laid W := by
  rw [MakeChecks.laidMetH_plain _ _ _ (by kernel_rfl)] at h
  obtain ⟨ps, ⟨g, t, cs, f, p, q, hg, ht, hv, hd, _, _⟩, _, _⟩ := h
  obtain rfl := Option.some.inj (g1.symm.trans hg)
  obtain rfl := Option.some.inj (t1.symm.trans ht)
  have h1 := rd_arr (l := [[80, 79, 83, 84], [80, 85, 84], [68, 69, 76, 69, 84, 69], [80, 65, 84, 67, 72], [84, 82, 65, 67, 69], [67, 79, 78, 78, 69, 67, 84]]) Tryd.underlying67 c67 rfl hd
  obtain ⟨l⟩ := cs
  obtain rfl : l = _ := h1
  exact var_blk g1 hv

/-- The program's names of decisions are laid. -/
def LaidN (w : World) : Prop := ∃ t fr, w.heap[0]? = some (.cells #[.string ⟨#[]⟩, .string ⟨#[97, 108, 108, 111, 119]⟩, .string ⟨#[99, 104, 97, 108, 108, 101, 110, 103, 101]⟩, .string ⟨#[104, 105, 100, 101]⟩, .string ⟨#[109, 101, 116, 104, 111, 100]⟩] t fr)
theorem LaidN.below {w w' : World} (h : LaidN w) (hb : Below w.heap.size w w') : LaidN w' := by
  obtain ⟨t, fr, h⟩ := h
  exact ⟨t, fr, blk_below h hb⟩
def LaidD (w : World) : Prop := Laid w ∧ LaidN w
theorem LaidD.below {w w' : World} (h : LaidD w) (hb : Below w.heap.size w w') : LaidD w' := ⟨h.1.below hb, h.2.below hb⟩

theorem of_laid2 {W : World} (h : laidMetH Tryd.prog [("doorkeeper/reqline.others", Rows.laid_doorkeeper_reqline_others), ("doorkeeper/decide.names", Rows.laid_doorkeeper_decide_names)] W) : LaidD W := by
  rw [MakeChecks.laidMetH_plain _ _ _ (by kernel_rfl)] at h
  obtain ⟨ps, ⟨g, t, cs, f, p, q, hg, ht, hv, hd, ⟨g', t', cs', f', p', q', hg', ht', hv', hd', _, _⟩, _⟩, _, _⟩ := h
  obtain rfl := Option.some.inj (g1.symm.trans hg)
  obtain rfl := Option.some.inj (t1.symm.trans ht)
  obtain rfl := Option.some.inj (g0.symm.trans hg')
  obtain rfl := Option.some.inj (t0.symm.trans ht')
  have h1 := rd_arr (l := [[80, 79, 83, 84], [80, 85, 84], [68, 69, 76, 69, 84, 69], [80, 65, 84, 67, 72], [84, 82, 65, 67, 69], [67, 79, 78, 78, 69, 67, 84]]) Tryd.underlying67 c67 rfl hd
  have h2 := rd_arr (l := [[], [97, 108, 108, 111, 119], [99, 104, 97, 108, 108, 101, 110, 103, 101], [104, 105, 100, 101], [109, 101, 116, 104, 111, 100]]) Tryd.underlying63 c63 rfl hd'
  obtain ⟨l⟩ := cs
  obtain rfl : l = _ := h1
  obtain ⟨l'⟩ := cs'
  obtain rfl : l' = _ := h2
  exact ⟨var_blk g1 hv, var_blk g0 hv'⟩

/-- The door's own heap meets the condition. -/
theorem door_met1 (os : Os) (args : Array Value) : laidMetH Tryd.prog [("doorkeeper/reqline.others", Rows.laid_doorkeeper_reqline_others)] ((World.doorLaid Tryd.prog 400 os).forCall (fun _ _ => 0) ⟨#[], args, []⟩).memory :=
  laidMetH_of_parts3 (fuel := 8) (laidMet_of_run' 8 (by kernel_rfl) (by kernel_rfl)) (by kernel_rfl) (by kernel_rfl)
theorem door_met2 (os : Os) (args : Array Value) : laidMetH Tryd.prog [("doorkeeper/reqline.others", Rows.laid_doorkeeper_reqline_others), ("doorkeeper/decide.names", Rows.laid_doorkeeper_decide_names)] ((World.doorLaid Tryd.prog 400 os).forCall (fun _ _ => 0) ⟨#[], args, []⟩).memory :=
  laidMetH_of_parts3 (fuel := 8) (laidMet_of_run' 8 (by kernel_rfl) (by kernel_rfl)) (by kernel_rfl) (by kernel_rfl)
end Go.Proofs.YtjapmlfjlojbeaaDoor.PA
