/- Contracts of acl_Applies, as the kit's print.py wrote them over the translation. Conditions: those that each contract names. -/
import Derived.Test.YtjapmlfjlojbeaaDoorPA0
namespace Go.Proofs.YtjapmlfjlojbeaaDoor.PA
open Go.RowKit Go.Proofs.YtjapmlfjlojbeaaDoorW.PrintWords Go.Proofs.YtjapmlfjlojbeaaDoorW.PrintLast Go.Proofs.YtjapmlfjlojbeaaDoorW.PrintMore
attribute [local go_sem] max2_int min2_int max_two min_two max_three min_three max_four min_four   -- for this text's walks alone
set_option linter.unusedVariables false
set_option linter.unusedVariables false
set_option linter.unusedSimpArgs false

/-! ### acl_Applies: function 25 -/
def acl_Applies.f (a0_0 : ByteArray) (a0_1 : Bool) (a0_2 : Bool) (a1 : ByteArray) : Option (Bool) := if a0_0.toList = ([] : List UInt8) then (some true) else (if a0_0.toList = ([42] : List UInt8) then (some (a1.toList != ([] : List UInt8))) else (some (a0_0.toList == a1.toList)))
set_option maxHeartbeats 8000000 in
set_option maxRecDepth 100000 in
theorem acl_Applies.calls (a0_0 : ByteArray) (a0_1 : Bool) (a0_2 : Bool) (a1 : ByteArray) (r : Bool) (w : World) (h : acl_Applies.f a0_0 a0_1 a0_2 a1 = some r) :
    Calls Tryd.prog 25 #[.agg #[.string a0_0, .bool a0_1, .bool a0_2], .string a1] w fun e w' => e = .returned (.bool r) ∧ Below w.heap.size w w' := by
  have hu39 := Tryd.underlying39
  have HB := Aside0.mk (Below.refl w.heap.size w)
  have H : (if a0_0.toList = ([] : List UInt8) then (some true) else (if a0_0.toList = ([42] : List UInt8) then (some (a1.toList != ([] : List UInt8))) else (some (a0_0.toList == a1.toList)))) = some r := h
  clear h
  by_cases c3 : a0_0.toList = ([] : List UInt8)
  · rw [if_pos c3] at H
    have c3b0 : (a0_0.toList == ([] : List UInt8)) = true := beq_iff_eq.mpr c3
    have c3b1 : (a0_0.toList != ([] : List UInt8)) = false := bne_eq_false_iff_eq.mpr c3
    clear c3
    obtain rfl := Option.some.inj H
    go_enter Tryd.func25, Tryd.ntmps25
    go_wp2_with (first | ((with_reducible refine gate_dst (N := 2) rfl ?_); refine box_event ?hg (N := 2) ?hd (cs := #[.string a0_0, .bool a0_1, .bool a0_2]) (t := 39) ?hr ?_; (case hd => rfl); (case hg => rfl); (case hr => first | (go_simp; done) | (go_simp; rfl)); intro gb261 hg w4 hbox hb; have n0_ := Aside0.mk (below_step (by repeat (first | (with_reducible first | exact HB.out | apply below_alloc | apply pw_below_drewN | apply below_drew1) | exact HB.out)) hb); have n1_ := Aside0.mk (hbox); have n2_ := Aside0.mk ((by rw [hg]; exact (below_size (by repeat (first | (with_reducible first | exact HB.out | apply below_alloc | apply pw_below_drewN | apply below_drew1) | exact HB.out))) : w.heap.size ≤ gb261)); have n3_ := Aside0.mk ((by rw [hg]; exact (below_size (by repeat (first | (with_reducible first | exact HB.out | apply below_alloc | apply pw_below_drewN | apply below_drew1) | exact HB.out))) : w.heap.size ≤ gb261)); clear HB; have HB := n0_; have BK261 := n1_; have GW261 := n2_; have GE261 := n3_; clear n0_ n1_ n2_ n3_; clear hb hbox hg; have hcz5_0 : w4.cell? ⟨gb261, 0, none⟩ = some (.string a0_0) := (blk_cell BK261.out 0).trans rfl; have hcz5_1 : w4.cell? ⟨gb261, 1, none⟩ = some (.bool a0_1) := (blk_cell BK261.out 1).trans rfl; have hcz5_2 : w4.cell? ⟨gb261, 2, none⟩ = some (.bool a0_2) := (blk_cell BK261.out 2).trans rfl; have hfz5_0 := blk_frozen BK261.out 0; have hfz5_1 := blk_frozen BK261.out 1; have hfz5_2 := blk_frozen BK261.out 2))
    go_ret
    exact ⟨by first | rfl | (generalize a1.toList = q_; cases q_ <;> rfl) | (simp [errW_none, errW_some] <;> rfl) | (simp [*, errW_none, errW_some] <;> rfl), by repeat (first | (with_reducible first | exact HB.out | apply below_alloc | apply pw_below_drewN | apply below_drew1 | refine below_set ?_ GE261.out) | exact HB.out)⟩
  · rw [if_neg c3] at H
    have c3b0 : (a0_0.toList == ([] : List UInt8)) = false := beq_eq_false_iff_ne.mpr c3
    have c3b1 : (a0_0.toList != ([] : List UInt8)) = true := bne_iff_ne.mpr c3
    by_cases c6 : a0_0.toList = ([42] : List UInt8)
    · rw [if_pos c6] at H
      have c6b0 : (a0_0.toList == ([42] : List UInt8)) = true := beq_iff_eq.mpr c6
      have c6b1 : (a0_0.toList != ([42] : List UInt8)) = false := bne_eq_false_iff_eq.mpr c6
      clear c6
      obtain rfl := Option.some.inj H
      go_enter Tryd.func25, Tryd.ntmps25
      go_wp2_with (first | ((with_reducible refine gate_dst (N := 2) rfl ?_); refine box_event ?hg (N := 2) ?hd (cs := #[.string a0_0, .bool a0_1, .bool a0_2]) (t := 39) ?hr ?_; (case hd => rfl); (case hg => rfl); (case hr => first | (go_simp; done) | (go_simp; rfl)); intro gb261 hg w7 hbox hb; have n0_ := Aside0.mk (below_step (by repeat (first | (with_reducible first | exact HB.out | apply below_alloc | apply pw_below_drewN | apply below_drew1) | exact HB.out)) hb); have n1_ := Aside0.mk (hbox); have n2_ := Aside0.mk ((by rw [hg]; exact (below_size (by repeat (first | (with_reducible first | exact HB.out | apply below_alloc | apply pw_below_drewN | apply below_drew1) | exact HB.out))) : w.heap.size ≤ gb261)); have n3_ := Aside0.mk ((by rw [hg]; exact (below_size (by repeat (first | (with_reducible first | exact HB.out | apply below_alloc | apply pw_below_drewN | apply below_drew1) | exact HB.out))) : w.heap.size ≤ gb261)); clear HB; have HB := n0_; have BK261 := n1_; have GW261 := n2_; have GE261 := n3_; clear n0_ n1_ n2_ n3_; clear hb hbox hg; have hcz8_0 : w7.cell? ⟨gb261, 0, none⟩ = some (.string a0_0) := (blk_cell BK261.out 0).trans rfl; have hcz8_1 : w7.cell? ⟨gb261, 1, none⟩ = some (.bool a0_1) := (blk_cell BK261.out 1).trans rfl; have hcz8_2 : w7.cell? ⟨gb261, 2, none⟩ = some (.bool a0_2) := (blk_cell BK261.out 2).trans rfl; have hfz8_0 := blk_frozen BK261.out 0; have hfz8_1 := blk_frozen BK261.out 1; have hfz8_2 := blk_frozen BK261.out 2))
      go_ret
      exact ⟨by first | rfl | (generalize a1.toList = q_; cases q_ <;> rfl) | (simp [errW_none, errW_some] <;> rfl) | (simp [*, errW_none, errW_some] <;> rfl), by repeat (first | (with_reducible first | exact HB.out | apply below_alloc | apply pw_below_drewN | apply below_drew1 | refine below_set ?_ GE261.out) | exact HB.out)⟩
    · rw [if_neg c6] at H
      have c6b0 : (a0_0.toList == ([42] : List UInt8)) = false := beq_eq_false_iff_ne.mpr c6
      have c6b1 : (a0_0.toList != ([42] : List UInt8)) = true := bne_iff_ne.mpr c6
      obtain rfl := Option.some.inj H
      go_enter Tryd.func25, Tryd.ntmps25
      go_wp2_with (first | ((with_reducible refine gate_dst (N := 2) rfl ?_); refine box_event ?hg (N := 2) ?hd (cs := #[.string a0_0, .bool a0_1, .bool a0_2]) (t := 39) ?hr ?_; (case hd => rfl); (case hg => rfl); (case hr => first | (go_simp; done) | (go_simp; rfl)); intro gb261 hg w9 hbox hb; have n0_ := Aside0.mk (below_step (by repeat (first | (with_reducible first | exact HB.out | apply below_alloc | apply pw_below_drewN | apply below_drew1) | exact HB.out)) hb); have n1_ := Aside0.mk (hbox); have n2_ := Aside0.mk ((by rw [hg]; exact (below_size (by repeat (first | (with_reducible first | exact HB.out | apply below_alloc | apply pw_below_drewN | apply below_drew1) | exact HB.out))) : w.heap.size ≤ gb261)); have n3_ := Aside0.mk ((by rw [hg]; exact (below_size (by repeat (first | (with_reducible first | exact HB.out | apply below_alloc | apply pw_below_drewN | apply below_drew1) | exact HB.out))) : w.heap.size ≤ gb261)); clear HB; have HB := n0_; have BK261 := n1_; have GW261 := n2_; have GE261 := n3_; clear n0_ n1_ n2_ n3_; clear hb hbox hg; have hcz10_0 : w9.cell? ⟨gb261, 0, none⟩ = some (.string a0_0) := (blk_cell BK261.out 0).trans rfl; have hcz10_1 : w9.cell? ⟨gb261, 1, none⟩ = some (.bool a0_1) := (blk_cell BK261.out 1).trans rfl; have hcz10_2 : w9.cell? ⟨gb261, 2, none⟩ = some (.bool a0_2) := (blk_cell BK261.out 2).trans rfl; have hfz10_0 := blk_frozen BK261.out 0; have hfz10_1 := blk_frozen BK261.out 1; have hfz10_2 := blk_frozen BK261.out 2))
      go_ret
      exact ⟨by first | rfl | (generalize a1.toList = q_; cases q_ <;> rfl) | (simp [errW_none, errW_some] <;> rfl) | (simp [*, errW_none, errW_some] <;> rfl), by repeat (first | (with_reducible first | exact HB.out | apply below_alloc | apply pw_below_drewN | apply below_drew1 | refine below_set ?_ GE261.out) | exact HB.out)⟩

end Go.Proofs.YtjapmlfjlojbeaaDoor.PA
