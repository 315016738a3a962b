/- Contracts of refGranted0, as the kit's print.py wrote them over the translation. Conditions: those that each contract names. -/
import Derived.Test.YtjapmlfjlojbeaaDoorPA0
namespace Go.Proofs.YtjapmlfjlojbeaaDoor.PA
open Go.RowKit Go.Proofs.YtjapmlfjlojbeaaDoorW.PrintWords Go.Proofs.YtjapmlfjlojbeaaDoorW.PrintLast Go.Proofs.YtjapmlfjlojbeaaDoorW.PrintMore
attribute [local go_sem] max2_int min2_int max_two min_two max_three min_three max_four min_four   -- for this text's walks alone
set_option linter.unusedVariables false
set_option linter.unusedVariables false
set_option linter.unusedSimpArgs false

/-! ### refGranted0: function 21 -/
def refGranted0.l0 : Nat → ByteArray → ByteArray → Bool → Bool → Int → List ByteArray → List (S39) → Bool → ByteArray → Option (Bool)
  | 0, _, _, _, _, _, _, _, _, _ => none
  | k + 1, x1, x2, x7, x8, x9, x137000, x137001, x137002, x137003 => if x9 < (x137001.length : Int) then (if 0 ≤ x9 then (if ((rd_T39 x137001 x9).f0).toList = ([] : List UInt8) then (if x7 = true then (if x8 = true then (refGranted0.l0 k x1 x2 true true (wrap64 (x9 + 1)) x137000 x137001 x137002 x137003) else (refGranted0.l0 k x1 x2 true ((rd_T39 x137001 x9).f2) (wrap64 (x9 + 1)) x137000 x137001 x137002 x137003)) else (if x8 = true then (refGranted0.l0 k x1 x2 ((rd_T39 x137001 x9).f1) true (wrap64 (x9 + 1)) x137000 x137001 x137002 x137003) else (refGranted0.l0 k x1 x2 ((rd_T39 x137001 x9).f1) ((rd_T39 x137001 x9).f2) (wrap64 (x9 + 1)) x137000 x137001 x137002 x137003))) else (if x1.toList = ([] : List UInt8) then (refGranted0.l0 k x1 x2 x7 x8 (wrap64 (x9 + 1)) x137000 x137001 x137002 x137003) else (if ((rd_T39 x137001 x9).f0).toList = ([42] : List UInt8) then (if x7 = true then (if x8 = true then (refGranted0.l0 k x1 x2 true true (wrap64 (x9 + 1)) x137000 x137001 x137002 x137003) else (refGranted0.l0 k x1 x2 true ((rd_T39 x137001 x9).f2) (wrap64 (x9 + 1)) x137000 x137001 x137002 x137003)) else (if x8 = true then (refGranted0.l0 k x1 x2 ((rd_T39 x137001 x9).f1) true (wrap64 (x9 + 1)) x137000 x137001 x137002 x137003) else (refGranted0.l0 k x1 x2 ((rd_T39 x137001 x9).f1) ((rd_T39 x137001 x9).f2) (wrap64 (x9 + 1)) x137000 x137001 x137002 x137003))) else (if ((rd_T39 x137001 x9).f0).toList = x1.toList then (if x7 = true then (if x8 = true then (refGranted0.l0 k x1 x2 true true (wrap64 (x9 + 1)) x137000 x137001 x137002 x137003) else (refGranted0.l0 k x1 x2 true ((rd_T39 x137001 x9).f2) (wrap64 (x9 + 1)) x137000 x137001 x137002 x137003)) else (if x8 = true then (refGranted0.l0 k x1 x2 ((rd_T39 x137001 x9).f1) true (wrap64 (x9 + 1)) x137000 x137001 x137002 x137003) else (refGranted0.l0 k x1 x2 ((rd_T39 x137001 x9).f1) ((rd_T39 x137001 x9).f2) (wrap64 (x9 + 1)) x137000 x137001 x137002 x137003))) else (refGranted0.l0 k x1 x2 x7 x8 (wrap64 (x9 + 1)) x137000 x137001 x137002 x137003))))) else (none)) else (if x2.toList = ([71, 69, 84] : List UInt8) then (if x7 = true then (some true) else (if x2.toList = ([72, 69, 65, 68] : List UInt8) then (if x8 = true then (some true) else (if x2.toList = ([79, 80, 84, 73, 79, 78, 83] : List UInt8) then (some x8) else (some false))) else (if x2.toList = ([79, 80, 84, 73, 79, 78, 83] : List UInt8) then (some x8) else (some false)))) else (if x2.toList = ([72, 69, 65, 68] : List UInt8) then (if x8 = true then (some true) else (if x2.toList = ([79, 80, 84, 73, 79, 78, 83] : List UInt8) then (if x7 = true then (some true) else (some x8)) else (some false))) else (if x2.toList = ([79, 80, 84, 73, 79, 78, 83] : List UInt8) then (if x7 = true then (some true) else (some x8)) else (some false))))
def refGranted0.f (k : Nat) (l0_0 : List ByteArray) (l0_1 : List (S39)) (a0_2 : Bool) (a0_3 : ByteArray) (a1 : ByteArray) (a2 : ByteArray) : Option (Bool) := refGranted0.l0 k a1 a2 false false 0 l0_0 l0_1 a0_2 a0_3
theorem refGranted0.mono_l : ∀ k, (∀ y0 y1 y2 y3 y4 y5 y6 y7 y8, LeO (refGranted0.l0 k y0 y1 y2 y3 y4 y5 y6 y7 y8) (refGranted0.l0 (k + 1) y0 y1 y2 y3 y4 y5 y6 y7 y8))
  | 0 => fun _ _ _ _ _ _ _ _ _ r h => by simp [refGranted0.l0] at h
  | k + 1 => by
    have ih0 := refGranted0.mono_l k
    · intro y0 y1 y2 y3 y4 y5 y6 y7 y8
      unfold refGranted0.l0
      repeat' first
      | (with_reducible exact ih0 _ _ _ _ _ _ _ _ _)
      | (with_reducible exact LeO.refl _)
      | (with_reducible exact LeO.none _)
      | (with_reducible refine LeO.ite ?_ ?_)
      | (with_reducible refine LeO.bind ?_ (fun _ => ?_))
      | exact ih0 _ _ _ _ _ _ _ _ _
      | exact LeO.none _
      | refine LeO.ite ?_ ?_
      | refine LeO.bind ?_ (fun _ => ?_)
theorem refGranted0.mono : ∀ a0 a1 a2 a3 a4 a5 k, LeO (refGranted0.f k a0 a1 a2 a3 a4 a5) (refGranted0.f (k + 1) a0 a1 a2 a3 a4 a5) := by
  intro a0 a1 a2 a3 a4 a5 k
  have ih0 := refGranted0.mono_l k
  unfold refGranted0.f
  repeat' first
      | (with_reducible exact ih0 _ _ _ _ _ _ _ _ _)
      | (with_reducible exact LeO.refl _)
      | (with_reducible exact LeO.none _)
      | (with_reducible refine LeO.ite ?_ ?_)
      | (with_reducible refine LeO.bind ?_ (fun _ => ?_))
      | exact ih0 _ _ _ _ _ _ _ _ _
      | exact LeO.none _
      | refine LeO.ite ?_ ?_
      | refine LeO.bind ?_ (fun _ => ?_)
set_option maxHeartbeats 8000000 in
set_option maxRecDepth 100000 in
theorem refGranted0.calls (k : Nat) (A0_0 : Option Addr) (c0_0 : Nat) (l0_0 : List ByteArray) (A0_1 : Option Addr) (c0_1 : Nat) (l0_1 : List (S39)) (a0_2 : Bool) (a0_3 : ByteArray) (a1 : ByteArray) (a2 : ByteArray) (r : Bool) (w : World) (hr0_0 : Kd.C Kd.string w A0_0 l0_0.length l0_0) (hc0_0 : l0_0.length ≤ c0_0) (hr0_1 : Kd.C k39 w A0_1 l0_1.length l0_1) (hc0_1 : l0_1.length ≤ c0_1) (h : refGranted0.f k l0_0 l0_1 a0_2 a0_3 a1 a2 = some r) :
    Calls Tryd.prog 21 #[.agg #[.slice A0_0 l0_0.length c0_0, .slice A0_1 l0_1.length c0_1, .bool a0_2, .string a0_3], .string a1, .string a2] w fun e w' => e = .returned (.bool r) ∧ Below w.heap.size w w' := by
  have hu30 := Tryd.underlying30
  have hu39 := Tryd.underlying39
  have HR0_0 := Aside0.mk hr0_0
  have HC0_0 := Aside0.mk hc0_0
  clear hr0_0 hc0_0
  have HR0_1 := Aside0.mk hr0_1
  have HC0_1 := Aside0.mk hc0_1
  clear hr0_1 hc0_1
  have HB := Aside0.mk (Below.refl w.heap.size w)
  have H : (refGranted0.l0 k a1 a2 false false 0 l0_0 l0_1 a0_2 a0_3) = some r := h
  clear h
  have H' := Aside0.mk H
  clear H
  go_enter Tryd.func21, Tryd.ntmps21
  go_wp2_with (first | ((with_reducible refine gate_dst (N := 3) rfl ?_); refine box_event ?hg (N := 3) ?hd (cs := #[.slice A0_0 l0_0.length c0_0, .slice A0_1 l0_1.length c0_1, .bool a0_2, .string a0_3]) (t := 30) ?hr ?_; (case hd => rfl); (case hg => rfl); (case hr => first | (go_simp; done) | (go_simp; rfl)); intro gb136 hg w4 hbox hb; have n0_ := Aside0.mk (below_step (by repeat (first | (with_reducible first | exact HB.out | apply below_alloc | apply pw_below_drewN | apply below_drew1) | exact HB.out)) hb); have n1_ := Aside0.mk (hbox); have n2_ := Aside0.mk ((by rw [hg]; exact (below_size (by repeat (first | (with_reducible first | exact HB.out | apply below_alloc | apply pw_below_drewN | apply below_drew1) | exact HB.out))) : w.heap.size ≤ gb136)); have n3_ := Aside0.mk ((by rw [hg]; exact (below_size (by repeat (first | (with_reducible first | exact HB.out | apply below_alloc | apply pw_below_drewN | apply below_drew1) | exact HB.out))) : w.heap.size ≤ gb136)); clear HB; have HB := n0_; have BK136 := n1_; have GW136 := n2_; have GE136 := n3_; clear n0_ n1_ n2_ n3_; clear hb hbox hg))
  go_loopg [7, 8, 9] k (fun kq v7 v8 v9 w' => ∃ (x7_1 : Bool) (x8_1 : Bool) (x9_1 : Int), v7 = .bool x7_1 ∧ v8 = .bool x8_1 ∧ v9 = .int .i64 x9_1 ∧ Aside0 (refGranted0.l0 kq a1 a2 x7_1 x8_1 x9_1 l0_0 l0_1 a0_2 a0_3 = some r) ∧ Aside0 (kq ≤ k) ∧ Aside0 (w'.heap[gb136]? = some (.cells #[(.slice A0_0 l0_0.length c0_0), (.slice A0_1 l0_1.length c0_1), .bool a0_2, .string a0_3] 30 (0, 0))) ∧ Aside0 (Below w.heap.size w w'))
  case atStart => exact ⟨(false), (false), (0), (by first | rfl | (simp; done) | (simp [*]; done)), (by first | rfl | (simp; done) | (simp [*]; done)), (by first | rfl | (simp; done) | (simp [*]; done)), H', ⟨Nat.le_refl _⟩, ⟨by (with_reducible repeat (first | refine blk_drewN ?_ _ | refine blk_drew ?_ | refine blk_alloc ?_ _)); exact BK136.out⟩, ⟨by repeat (first | (with_reducible first | exact HB.out | apply below_alloc | apply pw_below_drewN | apply below_drew1 | refine below_set ?_ GE136.out) | exact HB.out)⟩⟩
  case round =>
    clear H'
    try clear c2
    try clear p2
    obtain ⟨x7_1, x8_1, x9_1, rfl, rfl, rfl, HA, HK1, BK136, HB⟩ := hrel
    cases gk with
    | zero => exact absurd HA.out (by simp [refGranted0.l0])
    | succ k1 =>
      have H := HA.out
      clear HA
      simp only [refGranted0.l0] at H
      by_cases c5 : x9_1 < (l0_1.length : Int)
      · rw [if_pos c5] at H
        have c5b0 : decide (x9_1 < (l0_1.length : Int)) = true := decide_eq_true c5
        clear c5
        by_cases c6 : 0 ≤ x9_1
        · rw [if_pos c6] at H
          have c6b0 : decide (0 ≤ x9_1) = true := decide_eq_true c6
          clear c6
          by_cases c7 : ((rd_T39 l0_1 x9_1).f0).toList = ([] : List UInt8)
          · rw [if_pos c7] at H
            have c7b0 : (((rd_T39 l0_1 x9_1).f0).toList == ([] : List UInt8)) = true := beq_iff_eq.mpr c7
            have c7b1 : (((rd_T39 l0_1 x9_1).f0).toList != ([] : List UInt8)) = false := bne_eq_false_iff_eq.mpr c7
            clear c7
            by_cases c8 : x7_1 = true
            · subst c8
              have H1 : (if x8_1 = true then (refGranted0.l0 k1 a1 a2 true true (wrap64 (x9_1 + 1)) l0_0 l0_1 a0_2 a0_3) else (refGranted0.l0 k1 a1 a2 true ((rd_T39 l0_1 x9_1).f2) (wrap64 (x9_1 + 1)) l0_0 l0_1 a0_2 a0_3)) = some r := by rw [if_pos rfl] at H; exact H
              clear H
              have H := H1
              clear H1
              by_cases c9 : x8_1 = true
              · subst c9
                have H1 : (refGranted0.l0 k1 a1 a2 true true (wrap64 (x9_1 + 1)) l0_0 l0_1 a0_2 a0_3) = some r := by rw [if_pos rfl] at H; exact H
                clear H
                have H := H1
                clear H1
                have H' := Aside0.mk H
                clear H
                have hcz10_0 : wr.cell? ⟨gb136, 0, none⟩ = some (.slice A0_0 l0_0.length c0_0) := (blk_cell BK136.out 0).trans rfl
                have hcz10_1 : wr.cell? ⟨gb136, 1, none⟩ = some (.slice A0_1 l0_1.length c0_1) := (blk_cell BK136.out 1).trans rfl
                have hcz10_2 : wr.cell? ⟨gb136, 2, none⟩ = some (.bool a0_2) := (blk_cell BK136.out 2).trans rfl
                have hcz10_3 : wr.cell? ⟨gb136, 3, none⟩ = some (.string a0_3) := (blk_cell BK136.out 3).trans rfl
                have hfz10_0 := blk_frozen BK136.out 0
                have hfz10_1 := blk_frozen BK136.out 1
                have hfz10_2 := blk_frozen BK136.out 2
                have hfz10_3 := blk_frozen BK136.out 3
                have p137 : 0 ≤ (x9_1 : Int) := of_decide_eq_true (by first | (with_reducible assumption) | assumption)
                have q137 : x9_1 < (l0_1.length : Int) := of_decide_eq_true (by first | (with_reducible assumption) | assumption)
                obtain ⟨ad137, e137, hx137_0, hx137_1, hx137_2⟩ := at_T39 HR0_1.out x9_1 p137 q137
                cases e137
                replace hx137_0 := (HB.out.cell (World.block_lt_of_cell? w _ hx137_0)).trans hx137_0
                replace hx137_1 := (HB.out.cell (World.block_lt_of_cell? w _ hx137_1)).trans hx137_1
                replace hx137_2 := (HB.out.cell (World.block_lt_of_cell? w _ hx137_2)).trans hx137_2
                replace p137 := eq_true p137
                replace q137 := eq_true q137
                go_wp2_with (first | ((with_reducible refine gate_dst (N := 10) rfl ?_); refine box_event ?hg (N := 10) ?hd (cs := #[.string (⟨#[]⟩ : ByteArray), .bool false, .bool false]) (t := 39) ?hr ?_; (case hd => rfl); (case hg => rfl); (case hr => first | (go_simp; done) | (go_simp; rfl)); intro gb138 hg w11 hbox hb; have n0_ := Aside0.mk (blk_below (g := gb136) (o := .cells #[.slice A0_0 l0_0.length c0_0, .slice (some ad137) l0_1.length c0_1, .bool a0_2, .string a0_3] 30 (0, 0)) (by (with_reducible repeat (first | refine blk_drewN ?_ _ | refine blk_drew ?_ | refine blk_alloc ?_ _)); exact BK136.out) hb); have n1_ := Aside0.mk (below_step (by repeat (first | (with_reducible first | exact HB.out | apply below_alloc | apply pw_below_drewN | apply below_drew1 | refine below_set ?_ GE136.out) | exact HB.out)) hb); have n2_ := Aside0.mk (hbox); have n3_ := Aside0.mk ((by rw [hg]; exact (below_size (by repeat (first | (with_reducible first | exact HB.out | apply below_alloc | apply pw_below_drewN | apply below_drew1 | refine below_set ?_ GE136.out) | exact HB.out))) : w.heap.size ≤ gb138)); have n4_ := Aside0.mk ((by rw [hg]; exact (below_size (by repeat (first | (with_reducible first | exact HB.out | apply below_alloc | apply pw_below_drewN | apply below_drew1 | refine below_set ?_ GE136.out) | exact HB.out))) : w.heap.size ≤ gb138)); have n5_ := Aside0.mk ((by rw [hg]; exact Nat.ne_of_lt (blk_lt (g := gb136) (o := .cells #[.slice A0_0 l0_0.length c0_0, .slice (some ad137) l0_1.length c0_1, .bool a0_2, .string a0_3] 30 (0, 0)) (by (with_reducible repeat (first | refine blk_drewN ?_ _ | refine blk_drew ?_ | refine blk_alloc ?_ _)); exact BK136.out)) : gb136 ≠ gb138)); have n6_ := Aside0.mk ((by rw [hg]; exact Nat.ne_of_gt (blk_lt (g := gb136) (o := .cells #[.slice A0_0 l0_0.length c0_0, .slice (some ad137) l0_1.length c0_1, .bool a0_2, .string a0_3] 30 (0, 0)) (by (with_reducible repeat (first | refine blk_drewN ?_ _ | refine blk_drew ?_ | refine blk_alloc ?_ _)); exact BK136.out)) : gb138 ≠ gb136)); clear BK136; clear HB; have BK136 := n0_; have HB := n1_; have BK138 := n2_; have GW138 := n3_; have GE138 := n4_; have NB136_138 := n5_; have NB138_136 := n6_; clear n0_ n1_ n2_ n3_ n4_ n5_ n6_; clear hb hbox hg; have hnb12 := NB138_136.out; have hnc12 := NB136_138.out; have hcz13_0 : w11.cell? ⟨gb138, 0, none⟩ = some (.string (⟨#[]⟩ : ByteArray)) := (blk_cell BK138.out 0).trans rfl; have hcz13_1 : w11.cell? ⟨gb138, 1, none⟩ = some (.bool false) := (blk_cell BK138.out 1).trans rfl; have hcz13_2 : w11.cell? ⟨gb138, 2, none⟩ = some (.bool false) := (blk_cell BK138.out 2).trans rfl; have hfz13_0 := blk_frozen BK138.out 0; have hfz13_1 := blk_frozen BK138.out 1; have hfz13_2 := blk_frozen BK138.out 2))
                go_roundg k1
                case measure => have := HK1.out; omega
                case rel => exact ⟨(true), (true), (wrap64 (x9_1 + 1)), (by first | rfl | (simp; done) | (simp [*]; done)), (by first | rfl | (simp; done) | (simp [*]; done)), (by first | rfl | (simp; done) | (simp [*]; done)), H', ⟨by have := HK1.out; omega⟩, ⟨by (with_reducible repeat (first | refine blk_drewN ?_ _ | refine blk_drew ?_ | refine blk_alloc ?_ _)); refine blk_far ?_ NB136_138.out _; (with_reducible repeat (first | refine blk_drewN ?_ _ | refine blk_drew ?_ | refine blk_alloc ?_ _)); refine blk_far ?_ NB136_138.out _; (with_reducible repeat (first | refine blk_drewN ?_ _ | refine blk_drew ?_ | refine blk_alloc ?_ _)); refine blk_far ?_ NB136_138.out _; (with_reducible repeat (first | refine blk_drewN ?_ _ | refine blk_drew ?_ | refine blk_alloc ?_ _)); exact BK136.out⟩, ⟨by repeat (first | (with_reducible first | exact HB.out | apply below_alloc | apply pw_below_drewN | apply below_drew1 | refine below_set ?_ GE136.out | refine below_set ?_ GE138.out) | exact HB.out)⟩⟩
              · replace c9 := Bool.eq_false_iff.mpr c9
                subst c9
                have H1 : (refGranted0.l0 k1 a1 a2 true ((rd_T39 l0_1 x9_1).f2) (wrap64 (x9_1 + 1)) l0_0 l0_1 a0_2 a0_3) = some r := by rw [if_neg (show ¬ (false = true) by decide)] at H; exact H
                clear H
                have H := H1
                clear H1
                have H' := Aside0.mk H
                clear H
                have hcz14_0 : wr.cell? ⟨gb136, 0, none⟩ = some (.slice A0_0 l0_0.length c0_0) := (blk_cell BK136.out 0).trans rfl
                have hcz14_1 : wr.cell? ⟨gb136, 1, none⟩ = some (.slice A0_1 l0_1.length c0_1) := (blk_cell BK136.out 1).trans rfl
                have hcz14_2 : wr.cell? ⟨gb136, 2, none⟩ = some (.bool a0_2) := (blk_cell BK136.out 2).trans rfl
                have hcz14_3 : wr.cell? ⟨gb136, 3, none⟩ = some (.string a0_3) := (blk_cell BK136.out 3).trans rfl
                have hfz14_0 := blk_frozen BK136.out 0
                have hfz14_1 := blk_frozen BK136.out 1
                have hfz14_2 := blk_frozen BK136.out 2
                have hfz14_3 := blk_frozen BK136.out 3
                have p137 : 0 ≤ (x9_1 : Int) := of_decide_eq_true (by first | (with_reducible assumption) | assumption)
                have q137 : x9_1 < (l0_1.length : Int) := of_decide_eq_true (by first | (with_reducible assumption) | assumption)
                obtain ⟨ad137, e137, hx137_0, hx137_1, hx137_2⟩ := at_T39 HR0_1.out x9_1 p137 q137
                cases e137
                replace hx137_0 := (HB.out.cell (World.block_lt_of_cell? w _ hx137_0)).trans hx137_0
                replace hx137_1 := (HB.out.cell (World.block_lt_of_cell? w _ hx137_1)).trans hx137_1
                replace hx137_2 := (HB.out.cell (World.block_lt_of_cell? w _ hx137_2)).trans hx137_2
                replace p137 := eq_true p137
                replace q137 := eq_true q137
                go_wp2_with (first | ((with_reducible refine gate_dst (N := 10) rfl ?_); refine box_event ?hg (N := 10) ?hd (cs := #[.string (⟨#[]⟩ : ByteArray), .bool false, .bool false]) (t := 39) ?hr ?_; (case hd => rfl); (case hg => rfl); (case hr => first | (go_simp; done) | (go_simp; rfl)); intro gb138 hg w15 hbox hb; have n0_ := Aside0.mk (blk_below (g := gb136) (o := .cells #[.slice A0_0 l0_0.length c0_0, .slice (some ad137) l0_1.length c0_1, .bool a0_2, .string a0_3] 30 (0, 0)) (by (with_reducible repeat (first | refine blk_drewN ?_ _ | refine blk_drew ?_ | refine blk_alloc ?_ _)); exact BK136.out) hb); have n1_ := Aside0.mk (below_step (by repeat (first | (with_reducible first | exact HB.out | apply below_alloc | apply pw_below_drewN | apply below_drew1 | refine below_set ?_ GE136.out) | exact HB.out)) hb); have n2_ := Aside0.mk (hbox); have n3_ := Aside0.mk ((by rw [hg]; exact (below_size (by repeat (first | (with_reducible first | exact HB.out | apply below_alloc | apply pw_below_drewN | apply below_drew1 | refine below_set ?_ GE136.out) | exact HB.out))) : w.heap.size ≤ gb138)); have n4_ := Aside0.mk ((by rw [hg]; exact (below_size (by repeat (first | (with_reducible first | exact HB.out | apply below_alloc | apply pw_below_drewN | apply below_drew1 | refine below_set ?_ GE136.out) | exact HB.out))) : w.heap.size ≤ gb138)); have n5_ := Aside0.mk ((by rw [hg]; exact Nat.ne_of_lt (blk_lt (g := gb136) (o := .cells #[.slice A0_0 l0_0.length c0_0, .slice (some ad137) l0_1.length c0_1, .bool a0_2, .string a0_3] 30 (0, 0)) (by (with_reducible repeat (first | refine blk_drewN ?_ _ | refine blk_drew ?_ | refine blk_alloc ?_ _)); exact BK136.out)) : gb136 ≠ gb138)); have n6_ := Aside0.mk ((by rw [hg]; exact Nat.ne_of_gt (blk_lt (g := gb136) (o := .cells #[.slice A0_0 l0_0.length c0_0, .slice (some ad137) l0_1.length c0_1, .bool a0_2, .string a0_3] 30 (0, 0)) (by (with_reducible repeat (first | refine blk_drewN ?_ _ | refine blk_drew ?_ | refine blk_alloc ?_ _)); exact BK136.out)) : gb138 ≠ gb136)); clear BK136; clear HB; have BK136 := n0_; have HB := n1_; have BK138 := n2_; have GW138 := n3_; have GE138 := n4_; have NB136_138 := n5_; have NB138_136 := n6_; clear n0_ n1_ n2_ n3_ n4_ n5_ n6_; clear hb hbox hg; have hnb16 := NB138_136.out; have hnc16 := NB136_138.out; have hcz17_0 : w15.cell? ⟨gb138, 0, none⟩ = some (.string (⟨#[]⟩ : ByteArray)) := (blk_cell BK138.out 0).trans rfl; have hcz17_1 : w15.cell? ⟨gb138, 1, none⟩ = some (.bool false) := (blk_cell BK138.out 1).trans rfl; have hcz17_2 : w15.cell? ⟨gb138, 2, none⟩ = some (.bool false) := (blk_cell BK138.out 2).trans rfl; have hfz17_0 := blk_frozen BK138.out 0; have hfz17_1 := blk_frozen BK138.out 1; have hfz17_2 := blk_frozen BK138.out 2))
                go_roundg k1
                case measure => have := HK1.out; omega
                case rel => exact ⟨(true), ((rd_T39 l0_1 x9_1).f2), (wrap64 (x9_1 + 1)), (by first | rfl | (simp; done) | (simp [*]; done)), (by first | rfl | (simp; done) | (simp [*]; done)), (by first | rfl | (simp; done) | (simp [*]; done)), H', ⟨by have := HK1.out; omega⟩, ⟨by (with_reducible repeat (first | refine blk_drewN ?_ _ | refine blk_drew ?_ | refine blk_alloc ?_ _)); refine blk_far ?_ NB136_138.out _; (with_reducible repeat (first | refine blk_drewN ?_ _ | refine blk_drew ?_ | refine blk_alloc ?_ _)); refine blk_far ?_ NB136_138.out _; (with_reducible repeat (first | refine blk_drewN ?_ _ | refine blk_drew ?_ | refine blk_alloc ?_ _)); refine blk_far ?_ NB136_138.out _; (with_reducible repeat (first | refine blk_drewN ?_ _ | refine blk_drew ?_ | refine blk_alloc ?_ _)); exact BK136.out⟩, ⟨by repeat (first | (with_reducible first | exact HB.out | apply below_alloc | apply pw_below_drewN | apply below_drew1 | refine below_set ?_ GE136.out | refine below_set ?_ GE138.out) | exact HB.out)⟩⟩
            · replace c8 := Bool.eq_false_iff.mpr c8
              subst c8
              have H1 : (if x8_1 = true then (refGranted0.l0 k1 a1 a2 ((rd_T39 l0_1 x9_1).f1) true (wrap64 (x9_1 + 1)) l0_0 l0_1 a0_2 a0_3) else (refGranted0.l0 k1 a1 a2 ((rd_T39 l0_1 x9_1).f1) ((rd_T39 l0_1 x9_1).f2) (wrap64 (x9_1 + 1)) l0_0 l0_1 a0_2 a0_3)) = some r := by rw [if_neg (show ¬ (false = true) by decide)] at H; exact H
              clear H
              have H := H1
              clear H1
              by_cases c18 : x8_1 = true
              · subst c18
                have H1 : (refGranted0.l0 k1 a1 a2 ((rd_T39 l0_1 x9_1).f1) true (wrap64 (x9_1 + 1)) l0_0 l0_1 a0_2 a0_3) = some r := by rw [if_pos rfl] at H; exact H
                clear H
                have H := H1
                clear H1
                have H' := Aside0.mk H
                clear H
                have hcz19_0 : wr.cell? ⟨gb136, 0, none⟩ = some (.slice A0_0 l0_0.length c0_0) := (blk_cell BK136.out 0).trans rfl
                have hcz19_1 : wr.cell? ⟨gb136, 1, none⟩ = some (.slice A0_1 l0_1.length c0_1) := (blk_cell BK136.out 1).trans rfl
                have hcz19_2 : wr.cell? ⟨gb136, 2, none⟩ = some (.bool a0_2) := (blk_cell BK136.out 2).trans rfl
                have hcz19_3 : wr.cell? ⟨gb136, 3, none⟩ = some (.string a0_3) := (blk_cell BK136.out 3).trans rfl
                have hfz19_0 := blk_frozen BK136.out 0
                have hfz19_1 := blk_frozen BK136.out 1
                have hfz19_2 := blk_frozen BK136.out 2
                have hfz19_3 := blk_frozen BK136.out 3
                have p137 : 0 ≤ (x9_1 : Int) := of_decide_eq_true (by first | (with_reducible assumption) | assumption)
                have q137 : x9_1 < (l0_1.length : Int) := of_decide_eq_true (by first | (with_reducible assumption) | assumption)
                obtain ⟨ad137, e137, hx137_0, hx137_1, hx137_2⟩ := at_T39 HR0_1.out x9_1 p137 q137
                cases e137
                replace hx137_0 := (HB.out.cell (World.block_lt_of_cell? w _ hx137_0)).trans hx137_0
                replace hx137_1 := (HB.out.cell (World.block_lt_of_cell? w _ hx137_1)).trans hx137_1
                replace hx137_2 := (HB.out.cell (World.block_lt_of_cell? w _ hx137_2)).trans hx137_2
                replace p137 := eq_true p137
                replace q137 := eq_true q137
                go_wp2_with (first | ((with_reducible refine gate_dst (N := 10) rfl ?_); refine box_event ?hg (N := 10) ?hd (cs := #[.string (⟨#[]⟩ : ByteArray), .bool false, .bool false]) (t := 39) ?hr ?_; (case hd => rfl); (case hg => rfl); (case hr => first | (go_simp; done) | (go_simp; rfl)); intro gb138 hg w20 hbox hb; have n0_ := Aside0.mk (blk_below (g := gb136) (o := .cells #[.slice A0_0 l0_0.length c0_0, .slice (some ad137) l0_1.length c0_1, .bool a0_2, .string a0_3] 30 (0, 0)) (by (with_reducible repeat (first | refine blk_drewN ?_ _ | refine blk_drew ?_ | refine blk_alloc ?_ _)); exact BK136.out) hb); have n1_ := Aside0.mk (below_step (by repeat (first | (with_reducible first | exact HB.out | apply below_alloc | apply pw_below_drewN | apply below_drew1 | refine below_set ?_ GE136.out) | exact HB.out)) hb); have n2_ := Aside0.mk (hbox); have n3_ := Aside0.mk ((by rw [hg]; exact (below_size (by repeat (first | (with_reducible first | exact HB.out | apply below_alloc | apply pw_below_drewN | apply below_drew1 | refine below_set ?_ GE136.out) | exact HB.out))) : w.heap.size ≤ gb138)); have n4_ := Aside0.mk ((by rw [hg]; exact (below_size (by repeat (first | (with_reducible first | exact HB.out | apply below_alloc | apply pw_below_drewN | apply below_drew1 | refine below_set ?_ GE136.out) | exact HB.out))) : w.heap.size ≤ gb138)); have n5_ := Aside0.mk ((by rw [hg]; exact Nat.ne_of_lt (blk_lt (g := gb136) (o := .cells #[.slice A0_0 l0_0.length c0_0, .slice (some ad137) l0_1.length c0_1, .bool a0_2, .string a0_3] 30 (0, 0)) (by (with_reducible repeat (first | refine blk_drewN ?_ _ | refine blk_drew ?_ | refine blk_alloc ?_ _)); exact BK136.out)) : gb136 ≠ gb138)); have n6_ := Aside0.mk ((by rw [hg]; exact Nat.ne_of_gt (blk_lt (g := gb136) (o := .cells #[.slice A0_0 l0_0.length c0_0, .slice (some ad137) l0_1.length c0_1, .bool a0_2, .string a0_3] 30 (0, 0)) (by (with_reducible repeat (first | refine blk_drewN ?_ _ | refine blk_drew ?_ | refine blk_alloc ?_ _)); exact BK136.out)) : gb138 ≠ gb136)); clear BK136; clear HB; have BK136 := n0_; have HB := n1_; have BK138 := n2_; have GW138 := n3_; have GE138 := n4_; have NB136_138 := n5_; have NB138_136 := n6_; clear n0_ n1_ n2_ n3_ n4_ n5_ n6_; clear hb hbox hg; have hnb21 := NB138_136.out; have hnc21 := NB136_138.out; have hcz22_0 : w20.cell? ⟨gb138, 0, none⟩ = some (.string (⟨#[]⟩ : ByteArray)) := (blk_cell BK138.out 0).trans rfl; have hcz22_1 : w20.cell? ⟨gb138, 1, none⟩ = some (.bool false) := (blk_cell BK138.out 1).trans rfl; have hcz22_2 : w20.cell? ⟨gb138, 2, none⟩ = some (.bool false) := (blk_cell BK138.out 2).trans rfl; have hfz22_0 := blk_frozen BK138.out 0; have hfz22_1 := blk_frozen BK138.out 1; have hfz22_2 := blk_frozen BK138.out 2))
                go_roundg k1
                case measure => have := HK1.out; omega
                case rel => exact ⟨((rd_T39 l0_1 x9_1).f1), (true), (wrap64 (x9_1 + 1)), (by first | rfl | (simp; done) | (simp [*]; done)), (by first | rfl | (simp; done) | (simp [*]; done)), (by first | rfl | (simp; done) | (simp [*]; done)), H', ⟨by have := HK1.out; omega⟩, ⟨by (with_reducible repeat (first | refine blk_drewN ?_ _ | refine blk_drew ?_ | refine blk_alloc ?_ _)); refine blk_far ?_ NB136_138.out _; (with_reducible repeat (first | refine blk_drewN ?_ _ | refine blk_drew ?_ | refine blk_alloc ?_ _)); refine blk_far ?_ NB136_138.out _; (with_reducible repeat (first | refine blk_drewN ?_ _ | refine blk_drew ?_ | refine blk_alloc ?_ _)); refine blk_far ?_ NB136_138.out _; (with_reducible repeat (first | refine blk_drewN ?_ _ | refine blk_drew ?_ | refine blk_alloc ?_ _)); exact BK136.out⟩, ⟨by repeat (first | (with_reducible first | exact HB.out | apply below_alloc | apply pw_below_drewN | apply below_drew1 | refine below_set ?_ GE136.out | refine below_set ?_ GE138.out) | exact HB.out)⟩⟩
              · replace c18 := Bool.eq_false_iff.mpr c18
                subst c18
                have H1 : (refGranted0.l0 k1 a1 a2 ((rd_T39 l0_1 x9_1).f1) ((rd_T39 l0_1 x9_1).f2) (wrap64 (x9_1 + 1)) l0_0 l0_1 a0_2 a0_3) = some r := by rw [if_neg (show ¬ (false = true) by decide)] at H; exact H
                clear H
                have H := H1
                clear H1
                have H' := Aside0.mk H
                clear H
                have hcz23_0 : wr.cell? ⟨gb136, 0, none⟩ = some (.slice A0_0 l0_0.length c0_0) := (blk_cell BK136.out 0).trans rfl
                have hcz23_1 : wr.cell? ⟨gb136, 1, none⟩ = some (.slice A0_1 l0_1.length c0_1) := (blk_cell BK136.out 1).trans rfl
                have hcz23_2 : wr.cell? ⟨gb136, 2, none⟩ = some (.bool a0_2) := (blk_cell BK136.out 2).trans rfl
                have hcz23_3 : wr.cell? ⟨gb136, 3, none⟩ = some (.string a0_3) := (blk_cell BK136.out 3).trans rfl
                have hfz23_0 := blk_frozen BK136.out 0
                have hfz23_1 := blk_frozen BK136.out 1
                have hfz23_2 := blk_frozen BK136.out 2
                have hfz23_3 := blk_frozen BK136.out 3
                have p137 : 0 ≤ (x9_1 : Int) := of_decide_eq_true (by first | (with_reducible assumption) | assumption)
                have q137 : x9_1 < (l0_1.length : Int) := of_decide_eq_true (by first | (with_reducible assumption) | assumption)
                obtain ⟨ad137, e137, hx137_0, hx137_1, hx137_2⟩ := at_T39 HR0_1.out x9_1 p137 q137
                cases e137
                replace hx137_0 := (HB.out.cell (World.block_lt_of_cell? w _ hx137_0)).trans hx137_0
                replace hx137_1 := (HB.out.cell (World.block_lt_of_cell? w _ hx137_1)).trans hx137_1
                replace hx137_2 := (HB.out.cell (World.block_lt_of_cell? w _ hx137_2)).trans hx137_2
                replace p137 := eq_true p137
                replace q137 := eq_true q137
                go_wp2_with (first | ((with_reducible refine gate_dst (N := 10) rfl ?_); refine box_event ?hg (N := 10) ?hd (cs := #[.string (⟨#[]⟩ : ByteArray), .bool false, .bool false]) (t := 39) ?hr ?_; (case hd => rfl); (case hg => rfl); (case hr => first | (go_simp; done) | (go_simp; rfl)); intro gb138 hg w24 hbox hb; have n0_ := Aside0.mk (blk_below (g := gb136) (o := .cells #[.slice A0_0 l0_0.length c0_0, .slice (some ad137) l0_1.length c0_1, .bool a0_2, .string a0_3] 30 (0, 0)) (by (with_reducible repeat (first | refine blk_drewN ?_ _ | refine blk_drew ?_ | refine blk_alloc ?_ _)); exact BK136.out) hb); have n1_ := Aside0.mk (below_step (by repeat (first | (with_reducible first | exact HB.out | apply below_alloc | apply pw_below_drewN | apply below_drew1 | refine below_set ?_ GE136.out) | exact HB.out)) hb); have n2_ := Aside0.mk (hbox); have n3_ := Aside0.mk ((by rw [hg]; exact (below_size (by repeat (first | (with_reducible first | exact HB.out | apply below_alloc | apply pw_below_drewN | apply below_drew1 | refine below_set ?_ GE136.out) | exact HB.out))) : w.heap.size ≤ gb138)); have n4_ := Aside0.mk ((by rw [hg]; exact (below_size (by repeat (first | (with_reducible first | exact HB.out | apply below_alloc | apply pw_below_drewN | apply below_drew1 | refine below_set ?_ GE136.out) | exact HB.out))) : w.heap.size ≤ gb138)); have n5_ := Aside0.mk ((by rw [hg]; exact Nat.ne_of_lt (blk_lt (g := gb136) (o := .cells #[.slice A0_0 l0_0.length c0_0, .slice (some ad137) l0_1.length c0_1, .bool a0_2, .string a0_3] 30 (0, 0)) (by (with_reducible repeat (first | refine blk_drewN ?_ _ | refine blk_drew ?_ | refine blk_alloc ?_ _)); exact BK136.out)) : gb136 ≠ gb138)); have n6_ := Aside0.mk ((by rw [hg]; exact Nat.ne_of_gt (blk_lt (g := gb136) (o := .cells #[.slice A0_0 l0_0.length c0_0, .slice (some ad137) l0_1.length c0_1, .bool a0_2, .string a0_3] 30 (0, 0)) (by (with_reducible repeat (first | refine blk_drewN ?_ _ | refine blk_drew ?_ | refine blk_alloc ?_ _)); exact BK136.out)) : gb138 ≠ gb136)); clear BK136; clear HB; have BK136 := n0_; have HB := n1_; have BK138 := n2_; have GW138 := n3_; have GE138 := n4_; have NB136_138 := n5_; have NB138_136 := n6_; clear n0_ n1_ n2_ n3_ n4_ n5_ n6_; clear hb hbox hg; have hnb25 := NB138_136.out; have hnc25 := NB136_138.out; have hcz26_0 : w24.cell? ⟨gb138, 0, none⟩ = some (.string (⟨#[]⟩ : ByteArray)) := (blk_cell BK138.out 0).trans rfl; have hcz26_1 : w24.cell? ⟨gb138, 1, none⟩ = some (.bool false) := (blk_cell BK138.out 1).trans rfl; have hcz26_2 : w24.cell? ⟨gb138, 2, none⟩ = some (.bool false) := (blk_cell BK138.out 2).trans rfl; have hfz26_0 := blk_frozen BK138.out 0; have hfz26_1 := blk_frozen BK138.out 1; have hfz26_2 := blk_frozen BK138.out 2))
                go_roundg k1
                case measure => have := HK1.out; omega
                case rel => exact ⟨((rd_T39 l0_1 x9_1).f1), ((rd_T39 l0_1 x9_1).f2), (wrap64 (x9_1 + 1)), (by first | rfl | (simp; done) | (simp [*]; done)), (by first | rfl | (simp; done) | (simp [*]; done)), (by first | rfl | (simp; done) | (simp [*]; done)), H', ⟨by have := HK1.out; omega⟩, ⟨by (with_reducible repeat (first | refine blk_drewN ?_ _ | refine blk_drew ?_ | refine blk_alloc ?_ _)); refine blk_far ?_ NB136_138.out _; (with_reducible repeat (first | refine blk_drewN ?_ _ | refine blk_drew ?_ | refine blk_alloc ?_ _)); refine blk_far ?_ NB136_138.out _; (with_reducible repeat (first | refine blk_drewN ?_ _ | refine blk_drew ?_ | refine blk_alloc ?_ _)); refine blk_far ?_ NB136_138.out _; (with_reducible repeat (first | refine blk_drewN ?_ _ | refine blk_drew ?_ | refine blk_alloc ?_ _)); exact BK136.out⟩, ⟨by repeat (first | (with_reducible first | exact HB.out | apply below_alloc | apply pw_below_drewN | apply below_drew1 | refine below_set ?_ GE136.out | refine below_set ?_ GE138.out) | exact HB.out)⟩⟩
          · rw [if_neg c7] at H
            have c7b0 : (((rd_T39 l0_1 x9_1).f0).toList == ([] : List UInt8)) = false := beq_eq_false_iff_ne.mpr c7
            have c7b1 : (((rd_T39 l0_1 x9_1).f0).toList != ([] : List UInt8)) = true := bne_iff_ne.mpr c7
            by_cases c27 : a1.toList = ([] : List UInt8)
            · rw [if_pos c27] at H
              have c27b0 : (a1.toList == ([] : List UInt8)) = true := beq_iff_eq.mpr c27
              have c27b1 : (a1.toList != ([] : List UInt8)) = false := bne_eq_false_iff_eq.mpr c27
              clear c27
              have H' := Aside0.mk H
              clear H
              have hcz28_0 : wr.cell? ⟨gb136, 0, none⟩ = some (.slice A0_0 l0_0.length c0_0) := (blk_cell BK136.out 0).trans rfl
              have hcz28_1 : wr.cell? ⟨gb136, 1, none⟩ = some (.slice A0_1 l0_1.length c0_1) := (blk_cell BK136.out 1).trans rfl
              have hcz28_2 : wr.cell? ⟨gb136, 2, none⟩ = some (.bool a0_2) := (blk_cell BK136.out 2).trans rfl
              have hcz28_3 : wr.cell? ⟨gb136, 3, none⟩ = some (.string a0_3) := (blk_cell BK136.out 3).trans rfl
              have hfz28_0 := blk_frozen BK136.out 0
              have hfz28_1 := blk_frozen BK136.out 1
              have hfz28_2 := blk_frozen BK136.out 2
              have hfz28_3 := blk_frozen BK136.out 3
              have p137 : 0 ≤ (x9_1 : Int) := of_decide_eq_true (by first | (with_reducible assumption) | assumption)
              have q137 : x9_1 < (l0_1.length : Int) := of_decide_eq_true (by first | (with_reducible assumption) | assumption)
              obtain ⟨ad137, e137, hx137_0, hx137_1, hx137_2⟩ := at_T39 HR0_1.out x9_1 p137 q137
              cases e137
              replace hx137_0 := (HB.out.cell (World.block_lt_of_cell? w _ hx137_0)).trans hx137_0
              replace hx137_1 := (HB.out.cell (World.block_lt_of_cell? w _ hx137_1)).trans hx137_1
              replace hx137_2 := (HB.out.cell (World.block_lt_of_cell? w _ hx137_2)).trans hx137_2
              replace p137 := eq_true p137
              replace q137 := eq_true q137
              go_wp2_with (first | ((with_reducible refine gate_dst (N := 10) rfl ?_); refine box_event ?hg (N := 10) ?hd (cs := #[.string (⟨#[]⟩ : ByteArray), .bool false, .bool false]) (t := 39) ?hr ?_; (case hd => rfl); (case hg => rfl); (case hr => first | (go_simp; done) | (go_simp; rfl)); intro gb138 hg w29 hbox hb; have n0_ := Aside0.mk (blk_below (g := gb136) (o := .cells #[.slice A0_0 l0_0.length c0_0, .slice (some ad137) l0_1.length c0_1, .bool a0_2, .string a0_3] 30 (0, 0)) (by (with_reducible repeat (first | refine blk_drewN ?_ _ | refine blk_drew ?_ | refine blk_alloc ?_ _)); exact BK136.out) hb); have n1_ := Aside0.mk (below_step (by repeat (first | (with_reducible first | exact HB.out | apply below_alloc | apply pw_below_drewN | apply below_drew1 | refine below_set ?_ GE136.out) | exact HB.out)) hb); have n2_ := Aside0.mk (hbox); have n3_ := Aside0.mk ((by rw [hg]; exact (below_size (by repeat (first | (with_reducible first | exact HB.out | apply below_alloc | apply pw_below_drewN | apply below_drew1 | refine below_set ?_ GE136.out) | exact HB.out))) : w.heap.size ≤ gb138)); have n4_ := Aside0.mk ((by rw [hg]; exact (below_size (by repeat (first | (with_reducible first | exact HB.out | apply below_alloc | apply pw_below_drewN | apply below_drew1 | refine below_set ?_ GE136.out) | exact HB.out))) : w.heap.size ≤ gb138)); have n5_ := Aside0.mk ((by rw [hg]; exact Nat.ne_of_lt (blk_lt (g := gb136) (o := .cells #[.slice A0_0 l0_0.length c0_0, .slice (some ad137) l0_1.length c0_1, .bool a0_2, .string a0_3] 30 (0, 0)) (by (with_reducible repeat (first | refine blk_drewN ?_ _ | refine blk_drew ?_ | refine blk_alloc ?_ _)); exact BK136.out)) : gb136 ≠ gb138)); have n6_ := Aside0.mk ((by rw [hg]; exact Nat.ne_of_gt (blk_lt (g := gb136) (o := .cells #[.slice A0_0 l0_0.length c0_0, .slice (some ad137) l0_1.length c0_1, .bool a0_2, .string a0_3] 30 (0, 0)) (by (with_reducible repeat (first | refine blk_drewN ?_ _ | refine blk_drew ?_ | refine blk_alloc ?_ _)); exact BK136.out)) : gb138 ≠ gb136)); clear BK136; clear HB; have BK136 := n0_; have HB := n1_; have BK138 := n2_; have GW138 := n3_; have GE138 := n4_; have NB136_138 := n5_; have NB138_136 := n6_; clear n0_ n1_ n2_ n3_ n4_ n5_ n6_; clear hb hbox hg; have hnb30 := NB138_136.out; have hnc30 := NB136_138.out; have hcz31_0 : w29.cell? ⟨gb138, 0, none⟩ = some (.string (⟨#[]⟩ : ByteArray)) := (blk_cell BK138.out 0).trans rfl; have hcz31_1 : w29.cell? ⟨gb138, 1, none⟩ = some (.bool false) := (blk_cell BK138.out 1).trans rfl; have hcz31_2 : w29.cell? ⟨gb138, 2, none⟩ = some (.bool false) := (blk_cell BK138.out 2).trans rfl; have hfz31_0 := blk_frozen BK138.out 0; have hfz31_1 := blk_frozen BK138.out 1; have hfz31_2 := blk_frozen BK138.out 2))
              go_roundg k1
              case measure => have := HK1.out; omega
              case rel => exact ⟨(x7_1), (x8_1), (wrap64 (x9_1 + 1)), (by first | rfl | (simp; done) | (simp [*]; done)), (by first | rfl | (simp; done) | (simp [*]; done)), (by first | rfl | (simp; done) | (simp [*]; done)), H', ⟨by have := HK1.out; omega⟩, ⟨by (with_reducible repeat (first | refine blk_drewN ?_ _ | refine blk_drew ?_ | refine blk_alloc ?_ _)); refine blk_far ?_ NB136_138.out _; (with_reducible repeat (first | refine blk_drewN ?_ _ | refine blk_drew ?_ | refine blk_alloc ?_ _)); refine blk_far ?_ NB136_138.out _; (with_reducible repeat (first | refine blk_drewN ?_ _ | refine blk_drew ?_ | refine blk_alloc ?_ _)); refine blk_far ?_ NB136_138.out _; (with_reducible repeat (first | refine blk_drewN ?_ _ | refine blk_drew ?_ | refine blk_alloc ?_ _)); exact BK136.out⟩, ⟨by repeat (first | (with_reducible first | exact HB.out | apply below_alloc | apply pw_below_drewN | apply below_drew1 | refine below_set ?_ GE136.out | refine below_set ?_ GE138.out) | exact HB.out)⟩⟩
            · rw [if_neg c27] at H
              have c27b0 : (a1.toList == ([] : List UInt8)) = false := beq_eq_false_iff_ne.mpr c27
              have c27b1 : (a1.toList != ([] : List UInt8)) = true := bne_iff_ne.mpr c27
              by_cases c32 : ((rd_T39 l0_1 x9_1).f0).toList = ([42] : List UInt8)
              · rw [if_pos c32] at H
                have c32b0 : (((rd_T39 l0_1 x9_1).f0).toList == ([42] : List UInt8)) = true := beq_iff_eq.mpr c32
                have c32b1 : (((rd_T39 l0_1 x9_1).f0).toList != ([42] : List UInt8)) = false := bne_eq_false_iff_eq.mpr c32
                clear c32
                by_cases c33 : x7_1 = true
                · subst c33
                  have H1 : (if x8_1 = true then (refGranted0.l0 k1 a1 a2 true true (wrap64 (x9_1 + 1)) l0_0 l0_1 a0_2 a0_3) else (refGranted0.l0 k1 a1 a2 true ((rd_T39 l0_1 x9_1).f2) (wrap64 (x9_1 + 1)) l0_0 l0_1 a0_2 a0_3)) = some r := by rw [if_pos rfl] at H; exact H
                  clear H
                  have H := H1
                  clear H1
                  by_cases c34 : x8_1 = true
                  · subst c34
                    have H1 : (refGranted0.l0 k1 a1 a2 true true (wrap64 (x9_1 + 1)) l0_0 l0_1 a0_2 a0_3) = some r := by rw [if_pos rfl] at H; exact H
                    clear H
                    have H := H1
                    clear H1
                    have H' := Aside0.mk H
                    clear H
                    have hcz35_0 : wr.cell? ⟨gb136, 0, none⟩ = some (.slice A0_0 l0_0.length c0_0) := (blk_cell BK136.out 0).trans rfl
                    have hcz35_1 : wr.cell? ⟨gb136, 1, none⟩ = some (.slice A0_1 l0_1.length c0_1) := (blk_cell BK136.out 1).trans rfl
                    have hcz35_2 : wr.cell? ⟨gb136, 2, none⟩ = some (.bool a0_2) := (blk_cell BK136.out 2).trans rfl
                    have hcz35_3 : wr.cell? ⟨gb136, 3, none⟩ = some (.string a0_3) := (blk_cell BK136.out 3).trans rfl
                    have hfz35_0 := blk_frozen BK136.out 0
                    have hfz35_1 := blk_frozen BK136.out 1
                    have hfz35_2 := blk_frozen BK136.out 2
                    have hfz35_3 := blk_frozen BK136.out 3
                    have p137 : 0 ≤ (x9_1 : Int) := of_decide_eq_true (by first | (with_reducible assumption) | assumption)
                    have q137 : x9_1 < (l0_1.length : Int) := of_decide_eq_true (by first | (with_reducible assumption) | assumption)
                    obtain ⟨ad137, e137, hx137_0, hx137_1, hx137_2⟩ := at_T39 HR0_1.out x9_1 p137 q137
                    cases e137
                    replace hx137_0 := (HB.out.cell (World.block_lt_of_cell? w _ hx137_0)).trans hx137_0
                    replace hx137_1 := (HB.out.cell (World.block_lt_of_cell? w _ hx137_1)).trans hx137_1
                    replace hx137_2 := (HB.out.cell (World.block_lt_of_cell? w _ hx137_2)).trans hx137_2
                    replace p137 := eq_true p137
                    replace q137 := eq_true q137
                    go_wp2_with (first | ((with_reducible refine gate_dst (N := 10) rfl ?_); refine box_event ?hg (N := 10) ?hd (cs := #[.string (⟨#[]⟩ : ByteArray), .bool false, .bool false]) (t := 39) ?hr ?_; (case hd => rfl); (case hg => rfl); (case hr => first | (go_simp; done) | (go_simp; rfl)); intro gb138 hg w36 hbox hb; have n0_ := Aside0.mk (blk_below (g := gb136) (o := .cells #[.slice A0_0 l0_0.length c0_0, .slice (some ad137) l0_1.length c0_1, .bool a0_2, .string a0_3] 30 (0, 0)) (by (with_reducible repeat (first | refine blk_drewN ?_ _ | refine blk_drew ?_ | refine blk_alloc ?_ _)); exact BK136.out) hb); have n1_ := Aside0.mk (below_step (by repeat (first | (with_reducible first | exact HB.out | apply below_alloc | apply pw_below_drewN | apply below_drew1 | refine below_set ?_ GE136.out) | exact HB.out)) hb); have n2_ := Aside0.mk (hbox); have n3_ := Aside0.mk ((by rw [hg]; exact (below_size (by repeat (first | (with_reducible first | exact HB.out | apply below_alloc | apply pw_below_drewN | apply below_drew1 | refine below_set ?_ GE136.out) | exact HB.out))) : w.heap.size ≤ gb138)); have n4_ := Aside0.mk ((by rw [hg]; exact (below_size (by repeat (first | (with_reducible first | exact HB.out | apply below_alloc | apply pw_below_drewN | apply below_drew1 | refine below_set ?_ GE136.out) | exact HB.out))) : w.heap.size ≤ gb138)); have n5_ := Aside0.mk ((by rw [hg]; exact Nat.ne_of_lt (blk_lt (g := gb136) (o := .cells #[.slice A0_0 l0_0.length c0_0, .slice (some ad137) l0_1.length c0_1, .bool a0_2, .string a0_3] 30 (0, 0)) (by (with_reducible repeat (first | refine blk_drewN ?_ _ | refine blk_drew ?_ | refine blk_alloc ?_ _)); exact BK136.out)) : gb136 ≠ gb138)); have n6_ := Aside0.mk ((by rw [hg]; exact Nat.ne_of_gt (blk_lt (g := gb136) (o := .cells #[.slice A0_0 l0_0.length c0_0, .slice (some ad137) l0_1.length c0_1, .bool a0_2, .string a0_3] 30 (0, 0)) (by (with_reducible repeat (first | refine blk_drewN ?_ _ | refine blk_drew ?_ | refine blk_alloc ?_ _)); exact BK136.out)) : gb138 ≠ gb136)); clear BK136; clear HB; have BK136 := n0_; have HB := n1_; have BK138 := n2_; have GW138 := n3_; have GE138 := n4_; have NB136_138 := n5_; have NB138_136 := n6_; clear n0_ n1_ n2_ n3_ n4_ n5_ n6_; clear hb hbox hg; have hnb37 := NB138_136.out; have hnc37 := NB136_138.out; have hcz38_0 : w36.cell? ⟨gb138, 0, none⟩ = some (.string (⟨#[]⟩ : ByteArray)) := (blk_cell BK138.out 0).trans rfl; have hcz38_1 : w36.cell? ⟨gb138, 1, none⟩ = some (.bool false) := (blk_cell BK138.out 1).trans rfl; have hcz38_2 : w36.cell? ⟨gb138, 2, none⟩ = some (.bool false) := (blk_cell BK138.out 2).trans rfl; have hfz38_0 := blk_frozen BK138.out 0; have hfz38_1 := blk_frozen BK138.out 1; have hfz38_2 := blk_frozen BK138.out 2))
                    go_roundg k1
                    case measure => have := HK1.out; omega
                    case rel => exact ⟨(true), (true), (wrap64 (x9_1 + 1)), (by first | rfl | (simp; done) | (simp [*]; done)), (by first | rfl | (simp; done) | (simp [*]; done)), (by first | rfl | (simp; done) | (simp [*]; done)), H', ⟨by have := HK1.out; omega⟩, ⟨by (with_reducible repeat (first | refine blk_drewN ?_ _ | refine blk_drew ?_ | refine blk_alloc ?_ _)); refine blk_far ?_ NB136_138.out _; (with_reducible repeat (first | refine blk_drewN ?_ _ | refine blk_drew ?_ | refine blk_alloc ?_ _)); refine blk_far ?_ NB136_138.out _; (with_reducible repeat (first | refine blk_drewN ?_ _ | refine blk_drew ?_ | refine blk_alloc ?_ _)); refine blk_far ?_ NB136_138.out _; (with_reducible repeat (first | refine blk_drewN ?_ _ | refine blk_drew ?_ | refine blk_alloc ?_ _)); exact BK136.out⟩, ⟨by repeat (first | (with_reducible first | exact HB.out | apply below_alloc | apply pw_below_drewN | apply below_drew1 | refine below_set ?_ GE136.out | refine below_set ?_ GE138.out) | exact HB.out)⟩⟩
                  · replace c34 := Bool.eq_false_iff.mpr c34
                    subst c34
                    have H1 : (refGranted0.l0 k1 a1 a2 true ((rd_T39 l0_1 x9_1).f2) (wrap64 (x9_1 + 1)) l0_0 l0_1 a0_2 a0_3) = some r := by rw [if_neg (show ¬ (false = true) by decide)] at H; exact H
                    clear H
                    have H := H1
                    clear H1
                    have H' := Aside0.mk H
                    clear H
                    have hcz39_0 : wr.cell? ⟨gb136, 0, none⟩ = some (.slice A0_0 l0_0.length c0_0) := (blk_cell BK136.out 0).trans rfl
                    have hcz39_1 : wr.cell? ⟨gb136, 1, none⟩ = some (.slice A0_1 l0_1.length c0_1) := (blk_cell BK136.out 1).trans rfl
                    have hcz39_2 : wr.cell? ⟨gb136, 2, none⟩ = some (.bool a0_2) := (blk_cell BK136.out 2).trans rfl
                    have hcz39_3 : wr.cell? ⟨gb136, 3, none⟩ = some (.string a0_3) := (blk_cell BK136.out 3).trans rfl
                    have hfz39_0 := blk_frozen BK136.out 0
                    have hfz39_1 := blk_frozen BK136.out 1
                    have hfz39_2 := blk_frozen BK136.out 2
                    have hfz39_3 := blk_frozen BK136.out 3
                    have p137 : 0 ≤ (x9_1 : Int) := of_decide_eq_true (by first | (with_reducible assumption) | assumption)
                    have q137 : x9_1 < (l0_1.length : Int) := of_decide_eq_true (by first | (with_reducible assumption) | assumption)
                    obtain ⟨ad137, e137, hx137_0, hx137_1, hx137_2⟩ := at_T39 HR0_1.out x9_1 p137 q137
                    cases e137
                    replace hx137_0 := (HB.out.cell (World.block_lt_of_cell? w _ hx137_0)).trans hx137_0
                    replace hx137_1 := (HB.out.cell (World.block_lt_of_cell? w _ hx137_1)).trans hx137_1
                    replace hx137_2 := (HB.out.cell (World.block_lt_of_cell? w _ hx137_2)).trans hx137_2
                    replace p137 := eq_true p137
                    replace q137 := eq_true q137
                    go_wp2_with (first | ((with_reducible refine gate_dst (N := 10) rfl ?_); refine box_event ?hg (N := 10) ?hd (cs := #[.string (⟨#[]⟩ : ByteArray), .bool false, .bool false]) (t := 39) ?hr ?_; (case hd => rfl); (case hg => rfl); (case hr => first | (go_simp; done) | (go_simp; rfl)); intro gb138 hg w40 hbox hb; have n0_ := Aside0.mk (blk_below (g := gb136) (o := .cells #[.slice A0_0 l0_0.length c0_0, .slice (some ad137) l0_1.length c0_1, .bool a0_2, .string a0_3] 30 (0, 0)) (by (with_reducible repeat (first | refine blk_drewN ?_ _ | refine blk_drew ?_ | refine blk_alloc ?_ _)); exact BK136.out) hb); have n1_ := Aside0.mk (below_step (by repeat (first | (with_reducible first | exact HB.out | apply below_alloc | apply pw_below_drewN | apply below_drew1 | refine below_set ?_ GE136.out) | exact HB.out)) hb); have n2_ := Aside0.mk (hbox); have n3_ := Aside0.mk ((by rw [hg]; exact (below_size (by repeat (first | (with_reducible first | exact HB.out | apply below_alloc | apply pw_below_drewN | apply below_drew1 | refine below_set ?_ GE136.out) | exact HB.out))) : w.heap.size ≤ gb138)); have n4_ := Aside0.mk ((by rw [hg]; exact (below_size (by repeat (first | (with_reducible first | exact HB.out | apply below_alloc | apply pw_below_drewN | apply below_drew1 | refine below_set ?_ GE136.out) | exact HB.out))) : w.heap.size ≤ gb138)); have n5_ := Aside0.mk ((by rw [hg]; exact Nat.ne_of_lt (blk_lt (g := gb136) (o := .cells #[.slice A0_0 l0_0.length c0_0, .slice (some ad137) l0_1.length c0_1, .bool a0_2, .string a0_3] 30 (0, 0)) (by (with_reducible repeat (first | refine blk_drewN ?_ _ | refine blk_drew ?_ | refine blk_alloc ?_ _)); exact BK136.out)) : gb136 ≠ gb138)); have n6_ := Aside0.mk ((by rw [hg]; exact Nat.ne_of_gt (blk_lt (g := gb136) (o := .cells #[.slice A0_0 l0_0.length c0_0, .slice (some ad137) l0_1.length c0_1, .bool a0_2, .string a0_3] 30 (0, 0)) (by (with_reducible repeat (first | refine blk_drewN ?_ _ | refine blk_drew ?_ | refine blk_alloc ?_ _)); exact BK136.out)) : gb138 ≠ gb136)); clear BK136; clear HB; have BK136 := n0_; have HB := n1_; have BK138 := n2_; have GW138 := n3_; have GE138 := n4_; have NB136_138 := n5_; have NB138_136 := n6_; clear n0_ n1_ n2_ n3_ n4_ n5_ n6_; clear hb hbox hg; have hnb41 := NB138_136.out; have hnc41 := NB136_138.out; have hcz42_0 : w40.cell? ⟨gb138, 0, none⟩ = some (.string (⟨#[]⟩ : ByteArray)) := (blk_cell BK138.out 0).trans rfl; have hcz42_1 : w40.cell? ⟨gb138, 1, none⟩ = some (.bool false) := (blk_cell BK138.out 1).trans rfl; have hcz42_2 : w40.cell? ⟨gb138, 2, none⟩ = some (.bool false) := (blk_cell BK138.out 2).trans rfl; have hfz42_0 := blk_frozen BK138.out 0; have hfz42_1 := blk_frozen BK138.out 1; have hfz42_2 := blk_frozen BK138.out 2))
                    go_roundg k1
                    case measure => have := HK1.out; omega
                    case rel => exact ⟨(true), ((rd_T39 l0_1 x9_1).f2), (wrap64 (x9_1 + 1)), (by first | rfl | (simp; done) | (simp [*]; done)), (by first | rfl | (simp; done) | (simp [*]; done)), (by first | rfl | (simp; done) | (simp [*]; done)), H', ⟨by have := HK1.out; omega⟩, ⟨by (with_reducible repeat (first | refine blk_drewN ?_ _ | refine blk_drew ?_ | refine blk_alloc ?_ _)); refine blk_far ?_ NB136_138.out _; (with_reducible repeat (first | refine blk_drewN ?_ _ | refine blk_drew ?_ | refine blk_alloc ?_ _)); refine blk_far ?_ NB136_138.out _; (with_reducible repeat (first | refine blk_drewN ?_ _ | refine blk_drew ?_ | refine blk_alloc ?_ _)); refine blk_far ?_ NB136_138.out _; (with_reducible repeat (first | refine blk_drewN ?_ _ | refine blk_drew ?_ | refine blk_alloc ?_ _)); exact BK136.out⟩, ⟨by repeat (first | (with_reducible first | exact HB.out | apply below_alloc | apply pw_below_drewN | apply below_drew1 | refine below_set ?_ GE136.out | refine below_set ?_ GE138.out) | exact HB.out)⟩⟩
                · replace c33 := Bool.eq_false_iff.mpr c33
                  subst c33
                  have H1 : (if x8_1 = true then (refGranted0.l0 k1 a1 a2 ((rd_T39 l0_1 x9_1).f1) true (wrap64 (x9_1 + 1)) l0_0 l0_1 a0_2 a0_3) else (refGranted0.l0 k1 a1 a2 ((rd_T39 l0_1 x9_1).f1) ((rd_T39 l0_1 x9_1).f2) (wrap64 (x9_1 + 1)) l0_0 l0_1 a0_2 a0_3)) = some r := by rw [if_neg (show ¬ (false = true) by decide)] at H; exact H
                  clear H
                  have H := H1
                  clear H1
                  by_cases c43 : x8_1 = true
                  · subst c43
                    have H1 : (refGranted0.l0 k1 a1 a2 ((rd_T39 l0_1 x9_1).f1) true (wrap64 (x9_1 + 1)) l0_0 l0_1 a0_2 a0_3) = some r := by rw [if_pos rfl] at H; exact H
                    clear H
                    have H := H1
                    clear H1
                    have H' := Aside0.mk H
                    clear H
                    have hcz44_0 : wr.cell? ⟨gb136, 0, none⟩ = some (.slice A0_0 l0_0.length c0_0) := (blk_cell BK136.out 0).trans rfl
                    have hcz44_1 : wr.cell? ⟨gb136, 1, none⟩ = some (.slice A0_1 l0_1.length c0_1) := (blk_cell BK136.out 1).trans rfl
                    have hcz44_2 : wr.cell? ⟨gb136, 2, none⟩ = some (.bool a0_2) := (blk_cell BK136.out 2).trans rfl
                    have hcz44_3 : wr.cell? ⟨gb136, 3, none⟩ = some (.string a0_3) := (blk_cell BK136.out 3).trans rfl
                    have hfz44_0 := blk_frozen BK136.out 0
                    have hfz44_1 := blk_frozen BK136.out 1
                    have hfz44_2 := blk_frozen BK136.out 2
                    have hfz44_3 := blk_frozen BK136.out 3
                    have p137 : 0 ≤ (x9_1 : Int) := of_decide_eq_true (by first | (with_reducible assumption) | assumption)
                    have q137 : x9_1 < (l0_1.length : Int) := of_decide_eq_true (by first | (with_reducible assumption) | assumption)
                    obtain ⟨ad137, e137, hx137_0, hx137_1, hx137_2⟩ := at_T39 HR0_1.out x9_1 p137 q137
                    cases e137
                    replace hx137_0 := (HB.out.cell (World.block_lt_of_cell? w _ hx137_0)).trans hx137_0
                    replace hx137_1 := (HB.out.cell (World.block_lt_of_cell? w _ hx137_1)).trans hx137_1
                    replace hx137_2 := (HB.out.cell (World.block_lt_of_cell? w _ hx137_2)).trans hx137_2
                    replace p137 := eq_true p137
                    replace q137 := eq_true q137
                    go_wp2_with (first | ((with_reducible refine gate_dst (N := 10) rfl ?_); refine box_event ?hg (N := 10) ?hd (cs := #[.string (⟨#[]⟩ : ByteArray), .bool false, .bool false]) (t := 39) ?hr ?_; (case hd => rfl); (case hg => rfl); (case hr => first | (go_simp; done) | (go_simp; rfl)); intro gb138 hg w45 hbox hb; have n0_ := Aside0.mk (blk_below (g := gb136) (o := .cells #[.slice A0_0 l0_0.length c0_0, .slice (some ad137) l0_1.length c0_1, .bool a0_2, .string a0_3] 30 (0, 0)) (by (with_reducible repeat (first | refine blk_drewN ?_ _ | refine blk_drew ?_ | refine blk_alloc ?_ _)); exact BK136.out) hb); have n1_ := Aside0.mk (below_step (by repeat (first | (with_reducible first | exact HB.out | apply below_alloc | apply pw_below_drewN | apply below_drew1 | refine below_set ?_ GE136.out) | exact HB.out)) hb); have n2_ := Aside0.mk (hbox); have n3_ := Aside0.mk ((by rw [hg]; exact (below_size (by repeat (first | (with_reducible first | exact HB.out | apply below_alloc | apply pw_below_drewN | apply below_drew1 | refine below_set ?_ GE136.out) | exact HB.out))) : w.heap.size ≤ gb138)); have n4_ := Aside0.mk ((by rw [hg]; exact (below_size (by repeat (first | (with_reducible first | exact HB.out | apply below_alloc | apply pw_below_drewN | apply below_drew1 | refine below_set ?_ GE136.out) | exact HB.out))) : w.heap.size ≤ gb138)); have n5_ := Aside0.mk ((by rw [hg]; exact Nat.ne_of_lt (blk_lt (g := gb136) (o := .cells #[.slice A0_0 l0_0.length c0_0, .slice (some ad137) l0_1.length c0_1, .bool a0_2, .string a0_3] 30 (0, 0)) (by (with_reducible repeat (first | refine blk_drewN ?_ _ | refine blk_drew ?_ | refine blk_alloc ?_ _)); exact BK136.out)) : gb136 ≠ gb138)); have n6_ := Aside0.mk ((by rw [hg]; exact Nat.ne_of_gt (blk_lt (g := gb136) (o := .cells #[.slice A0_0 l0_0.length c0_0, .slice (some ad137) l0_1.length c0_1, .bool a0_2, .string a0_3] 30 (0, 0)) (by (with_reducible repeat (first | refine blk_drewN ?_ _ | refine blk_drew ?_ | refine blk_alloc ?_ _)); exact BK136.out)) : gb138 ≠ gb136)); clear BK136; clear HB; have BK136 := n0_; have HB := n1_; have BK138 := n2_; have GW138 := n3_; have GE138 := n4_; have NB136_138 := n5_; have NB138_136 := n6_; clear n0_ n1_ n2_ n3_ n4_ n5_ n6_; clear hb hbox hg; have hnb46 := NB138_136.out; have hnc46 := NB136_138.out; have hcz47_0 : w45.cell? ⟨gb138, 0, none⟩ = some (.string (⟨#[]⟩ : ByteArray)) := (blk_cell BK138.out 0).trans rfl; have hcz47_1 : w45.cell? ⟨gb138, 1, none⟩ = some (.bool false) := (blk_cell BK138.out 1).trans rfl; have hcz47_2 : w45.cell? ⟨gb138, 2, none⟩ = some (.bool false) := (blk_cell BK138.out 2).trans rfl; have hfz47_0 := blk_frozen BK138.out 0; have hfz47_1 := blk_frozen BK138.out 1; have hfz47_2 := blk_frozen BK138.out 2))
                    go_roundg k1
                    case measure => have := HK1.out; omega
                    case rel => exact ⟨((rd_T39 l0_1 x9_1).f1), (true), (wrap64 (x9_1 + 1)), (by first | rfl | (simp; done) | (simp [*]; done)), (by first | rfl | (simp; done) | (simp [*]; done)), (by first | rfl | (simp; done) | (simp [*]; done)), H', ⟨by have := HK1.out; omega⟩, ⟨by (with_reducible repeat (first | refine blk_drewN ?_ _ | refine blk_drew ?_ | refine blk_alloc ?_ _)); refine blk_far ?_ NB136_138.out _; (with_reducible repeat (first | refine blk_drewN ?_ _ | refine blk_drew ?_ | refine blk_alloc ?_ _)); refine blk_far ?_ NB136_138.out _; (with_reducible repeat (first | refine blk_drewN ?_ _ | refine blk_drew ?_ | refine blk_alloc ?_ _)); refine blk_far ?_ NB136_138.out _; (with_reducible repeat (first | refine blk_drewN ?_ _ | refine blk_drew ?_ | refine blk_alloc ?_ _)); exact BK136.out⟩, ⟨by repeat (first | (with_reducible first | exact HB.out | apply below_alloc | apply pw_below_drewN | apply below_drew1 | refine below_set ?_ GE136.out | refine below_set ?_ GE138.out) | exact HB.out)⟩⟩
                  · replace c43 := Bool.eq_false_iff.mpr c43
                    subst c43
                    have H1 : (refGranted0.l0 k1 a1 a2 ((rd_T39 l0_1 x9_1).f1) ((rd_T39 l0_1 x9_1).f2) (wrap64 (x9_1 + 1)) l0_0 l0_1 a0_2 a0_3) = some r := by rw [if_neg (show ¬ (false = true) by decide)] at H; exact H
                    clear H
                    have H := H1
                    clear H1
                    have H' := Aside0.mk H
                    clear H
                    have hcz48_0 : wr.cell? ⟨gb136, 0, none⟩ = some (.slice A0_0 l0_0.length c0_0) := (blk_cell BK136.out 0).trans rfl
                    have hcz48_1 : wr.cell? ⟨gb136, 1, none⟩ = some (.slice A0_1 l0_1.length c0_1) := (blk_cell BK136.out 1).trans rfl
                    have hcz48_2 : wr.cell? ⟨gb136, 2, none⟩ = some (.bool a0_2) := (blk_cell BK136.out 2).trans rfl
                    have hcz48_3 : wr.cell? ⟨gb136, 3, none⟩ = some (.string a0_3) := (blk_cell BK136.out 3).trans rfl
                    have hfz48_0 := blk_frozen BK136.out 0
                    have hfz48_1 := blk_frozen BK136.out 1
                    have hfz48_2 := blk_frozen BK136.out 2
                    have hfz48_3 := blk_frozen BK136.out 3
                    have p137 : 0 ≤ (x9_1 : Int) := of_decide_eq_true (by first | (with_reducible assumption) | assumption)
                    have q137 : x9_1 < (l0_1.length : Int) := of_decide_eq_true (by first | (with_reducible assumption) | assumption)
                    obtain ⟨ad137, e137, hx137_0, hx137_1, hx137_2⟩ := at_T39 HR0_1.out x9_1 p137 q137
                    cases e137
                    replace hx137_0 := (HB.out.cell (World.block_lt_of_cell? w _ hx137_0)).trans hx137_0
                    replace hx137_1 := (HB.out.cell (World.block_lt_of_cell? w _ hx137_1)).trans hx137_1
                    replace hx137_2 := (HB.out.cell (World.block_lt_of_cell? w _ hx137_2)).trans hx137_2
                    replace p137 := eq_true p137
                    replace q137 := eq_true q137
                    go_wp2_with (first | ((with_reducible refine gate_dst (N := 10) rfl ?_); refine box_event ?hg (N := 10) ?hd (cs := #[.string (⟨#[]⟩ : ByteArray), .bool false, .bool false]) (t := 39) ?hr ?_; (case hd => rfl); (case hg => rfl); (case hr => first | (go_simp; done) | (go_simp; rfl)); intro gb138 hg w49 hbox hb; have n0_ := Aside0.mk (blk_below (g := gb136) (o := .cells #[.slice A0_0 l0_0.length c0_0, .slice (some ad137) l0_1.length c0_1, .bool a0_2, .string a0_3] 30 (0, 0)) (by (with_reducible repeat (first | refine blk_drewN ?_ _ | refine blk_drew ?_ | refine blk_alloc ?_ _)); exact BK136.out) hb); have n1_ := Aside0.mk (below_step (by repeat (first | (with_reducible first | exact HB.out | apply below_alloc | apply pw_below_drewN | apply below_drew1 | refine below_set ?_ GE136.out) | exact HB.out)) hb); have n2_ := Aside0.mk (hbox); have n3_ := Aside0.mk ((by rw [hg]; exact (below_size (by repeat (first | (with_reducible first | exact HB.out | apply below_alloc | apply pw_below_drewN | apply below_drew1 | refine below_set ?_ GE136.out) | exact HB.out))) : w.heap.size ≤ gb138)); have n4_ := Aside0.mk ((by rw [hg]; exact (below_size (by repeat (first | (with_reducible first | exact HB.out | apply below_alloc | apply pw_below_drewN | apply below_drew1 | refine below_set ?_ GE136.out) | exact HB.out))) : w.heap.size ≤ gb138)); have n5_ := Aside0.mk ((by rw [hg]; exact Nat.ne_of_lt (blk_lt (g := gb136) (o := .cells #[.slice A0_0 l0_0.length c0_0, .slice (some ad137) l0_1.length c0_1, .bool a0_2, .string a0_3] 30 (0, 0)) (by (with_reducible repeat (first | refine blk_drewN ?_ _ | refine blk_drew ?_ | refine blk_alloc ?_ _)); exact BK136.out)) : gb136 ≠ gb138)); have n6_ := Aside0.mk ((by rw [hg]; exact Nat.ne_of_gt (blk_lt (g := gb136) (o := .cells #[.slice A0_0 l0_0.length c0_0, .slice (some ad137) l0_1.length c0_1, .bool a0_2, .string a0_3] 30 (0, 0)) (by (with_reducible repeat (first | refine blk_drewN ?_ _ | refine blk_drew ?_ | refine blk_alloc ?_ _)); exact BK136.out)) : gb138 ≠ gb136)); clear BK136; clear HB; have BK136 := n0_; have HB := n1_; have BK138 := n2_; have GW138 := n3_; have GE138 := n4_; have NB136_138 := n5_; have NB138_136 := n6_; clear n0_ n1_ n2_ n3_ n4_ n5_ n6_; clear hb hbox hg; have hnb50 := NB138_136.out; have hnc50 := NB136_138.out; have hcz51_0 : w49.cell? ⟨gb138, 0, none⟩ = some (.string (⟨#[]⟩ : ByteArray)) := (blk_cell BK138.out 0).trans rfl; have hcz51_1 : w49.cell? ⟨gb138, 1, none⟩ = some (.bool false) := (blk_cell BK138.out 1).trans rfl; have hcz51_2 : w49.cell? ⟨gb138, 2, none⟩ = some (.bool false) := (blk_cell BK138.out 2).trans rfl; have hfz51_0 := blk_frozen BK138.out 0; have hfz51_1 := blk_frozen BK138.out 1; have hfz51_2 := blk_frozen BK138.out 2))
                    go_roundg k1
                    case measure => have := HK1.out; omega
                    case rel => exact ⟨((rd_T39 l0_1 x9_1).f1), ((rd_T39 l0_1 x9_1).f2), (wrap64 (x9_1 + 1)), (by first | rfl | (simp; done) | (simp [*]; done)), (by first | rfl | (simp; done) | (simp [*]; done)), (by first | rfl | (simp; done) | (simp [*]; done)), H', ⟨by have := HK1.out; omega⟩, ⟨by (with_reducible repeat (first | refine blk_drewN ?_ _ | refine blk_drew ?_ | refine blk_alloc ?_ _)); refine blk_far ?_ NB136_138.out _; (with_reducible repeat (first | refine blk_drewN ?_ _ | refine blk_drew ?_ | refine blk_alloc ?_ _)); refine blk_far ?_ NB136_138.out _; (with_reducible repeat (first | refine blk_drewN ?_ _ | refine blk_drew ?_ | refine blk_alloc ?_ _)); refine blk_far ?_ NB136_138.out _; (with_reducible repeat (first | refine blk_drewN ?_ _ | refine blk_drew ?_ | refine blk_alloc ?_ _)); exact BK136.out⟩, ⟨by repeat (first | (with_reducible first | exact HB.out | apply below_alloc | apply pw_below_drewN | apply below_drew1 | refine below_set ?_ GE136.out | refine below_set ?_ GE138.out) | exact HB.out)⟩⟩
              · rw [if_neg c32] at H
                have c32b0 : (((rd_T39 l0_1 x9_1).f0).toList == ([42] : List UInt8)) = false := beq_eq_false_iff_ne.mpr c32
                have c32b1 : (((rd_T39 l0_1 x9_1).f0).toList != ([42] : List UInt8)) = true := bne_iff_ne.mpr c32
                by_cases c52 : ((rd_T39 l0_1 x9_1).f0).toList = a1.toList
                · rw [if_pos c52] at H
                  have c52b0 : (((rd_T39 l0_1 x9_1).f0).toList == a1.toList) = true := beq_iff_eq.mpr c52
                  have c52b1 : (((rd_T39 l0_1 x9_1).f0).toList != a1.toList) = false := bne_eq_false_iff_eq.mpr c52
                  clear c52
                  by_cases c53 : x7_1 = true
                  · subst c53
                    have H1 : (if x8_1 = true then (refGranted0.l0 k1 a1 a2 true true (wrap64 (x9_1 + 1)) l0_0 l0_1 a0_2 a0_3) else (refGranted0.l0 k1 a1 a2 true ((rd_T39 l0_1 x9_1).f2) (wrap64 (x9_1 + 1)) l0_0 l0_1 a0_2 a0_3)) = some r := by rw [if_pos rfl] at H; exact H
                    clear H
                    have H := H1
                    clear H1
                    by_cases c54 : x8_1 = true
                    · subst c54
                      have H1 : (refGranted0.l0 k1 a1 a2 true true (wrap64 (x9_1 + 1)) l0_0 l0_1 a0_2 a0_3) = some r := by rw [if_pos rfl] at H; exact H
                      clear H
                      have H := H1
                      clear H1
                      have H' := Aside0.mk H
                      clear H
                      have hcz55_0 : wr.cell? ⟨gb136, 0, none⟩ = some (.slice A0_0 l0_0.length c0_0) := (blk_cell BK136.out 0).trans rfl
                      have hcz55_1 : wr.cell? ⟨gb136, 1, none⟩ = some (.slice A0_1 l0_1.length c0_1) := (blk_cell BK136.out 1).trans rfl
                      have hcz55_2 : wr.cell? ⟨gb136, 2, none⟩ = some (.bool a0_2) := (blk_cell BK136.out 2).trans rfl
                      have hcz55_3 : wr.cell? ⟨gb136, 3, none⟩ = some (.string a0_3) := (blk_cell BK136.out 3).trans rfl
                      have hfz55_0 := blk_frozen BK136.out 0
                      have hfz55_1 := blk_frozen BK136.out 1
                      have hfz55_2 := blk_frozen BK136.out 2
                      have hfz55_3 := blk_frozen BK136.out 3
                      have p137 : 0 ≤ (x9_1 : Int) := of_decide_eq_true (by first | (with_reducible assumption) | assumption)
                      have q137 : x9_1 < (l0_1.length : Int) := of_decide_eq_true (by first | (with_reducible assumption) | assumption)
                      obtain ⟨ad137, e137, hx137_0, hx137_1, hx137_2⟩ := at_T39 HR0_1.out x9_1 p137 q137
                      cases e137
                      replace hx137_0 := (HB.out.cell (World.block_lt_of_cell? w _ hx137_0)).trans hx137_0
                      replace hx137_1 := (HB.out.cell (World.block_lt_of_cell? w _ hx137_1)).trans hx137_1
                      replace hx137_2 := (HB.out.cell (World.block_lt_of_cell? w _ hx137_2)).trans hx137_2
                      replace p137 := eq_true p137
                      replace q137 := eq_true q137
                      go_wp2_with (first | ((with_reducible refine gate_dst (N := 10) rfl ?_); refine box_event ?hg (N := 10) ?hd (cs := #[.string (⟨#[]⟩ : ByteArray), .bool false, .bool false]) (t := 39) ?hr ?_; (case hd => rfl); (case hg => rfl); (case hr => first | (go_simp; done) | (go_simp; rfl)); intro gb138 hg w56 hbox hb; have n0_ := Aside0.mk (blk_below (g := gb136) (o := .cells #[.slice A0_0 l0_0.length c0_0, .slice (some ad137) l0_1.length c0_1, .bool a0_2, .string a0_3] 30 (0, 0)) (by (with_reducible repeat (first | refine blk_drewN ?_ _ | refine blk_drew ?_ | refine blk_alloc ?_ _)); exact BK136.out) hb); have n1_ := Aside0.mk (below_step (by repeat (first | (with_reducible first | exact HB.out | apply below_alloc | apply pw_below_drewN | apply below_drew1 | refine below_set ?_ GE136.out) | exact HB.out)) hb); have n2_ := Aside0.mk (hbox); have n3_ := Aside0.mk ((by rw [hg]; exact (below_size (by repeat (first | (with_reducible first | exact HB.out | apply below_alloc | apply pw_below_drewN | apply below_drew1 | refine below_set ?_ GE136.out) | exact HB.out))) : w.heap.size ≤ gb138)); have n4_ := Aside0.mk ((by rw [hg]; exact (below_size (by repeat (first | (with_reducible first | exact HB.out | apply below_alloc | apply pw_below_drewN | apply below_drew1 | refine below_set ?_ GE136.out) | exact HB.out))) : w.heap.size ≤ gb138)); have n5_ := Aside0.mk ((by rw [hg]; exact Nat.ne_of_lt (blk_lt (g := gb136) (o := .cells #[.slice A0_0 l0_0.length c0_0, .slice (some ad137) l0_1.length c0_1, .bool a0_2, .string a0_3] 30 (0, 0)) (by (with_reducible repeat (first | refine blk_drewN ?_ _ | refine blk_drew ?_ | refine blk_alloc ?_ _)); exact BK136.out)) : gb136 ≠ gb138)); have n6_ := Aside0.mk ((by rw [hg]; exact Nat.ne_of_gt (blk_lt (g := gb136) (o := .cells #[.slice A0_0 l0_0.length c0_0, .slice (some ad137) l0_1.length c0_1, .bool a0_2, .string a0_3] 30 (0, 0)) (by (with_reducible repeat (first | refine blk_drewN ?_ _ | refine blk_drew ?_ | refine blk_alloc ?_ _)); exact BK136.out)) : gb138 ≠ gb136)); clear BK136; clear HB; have BK136 := n0_; have HB := n1_; have BK138 := n2_; have GW138 := n3_; have GE138 := n4_; have NB136_138 := n5_; have NB138_136 := n6_; clear n0_ n1_ n2_ n3_ n4_ n5_ n6_; clear hb hbox hg; have hnb57 := NB138_136.out; have hnc57 := NB136_138.out; have hcz58_0 : w56.cell? ⟨gb138, 0, none⟩ = some (.string (⟨#[]⟩ : ByteArray)) := (blk_cell BK138.out 0).trans rfl; have hcz58_1 : w56.cell? ⟨gb138, 1, none⟩ = some (.bool false) := (blk_cell BK138.out 1).trans rfl; have hcz58_2 : w56.cell? ⟨gb138, 2, none⟩ = some (.bool false) := (blk_cell BK138.out 2).trans rfl; have hfz58_0 := blk_frozen BK138.out 0; have hfz58_1 := blk_frozen BK138.out 1; have hfz58_2 := blk_frozen BK138.out 2))
                      go_roundg k1
                      case measure => have := HK1.out; omega
                      case rel => exact ⟨(true), (true), (wrap64 (x9_1 + 1)), (by first | rfl | (simp; done) | (simp [*]; done)), (by first | rfl | (simp; done) | (simp [*]; done)), (by first | rfl | (simp; done) | (simp [*]; done)), H', ⟨by have := HK1.out; omega⟩, ⟨by (with_reducible repeat (first | refine blk_drewN ?_ _ | refine blk_drew ?_ | refine blk_alloc ?_ _)); refine blk_far ?_ NB136_138.out _; (with_reducible repeat (first | refine blk_drewN ?_ _ | refine blk_drew ?_ | refine blk_alloc ?_ _)); refine blk_far ?_ NB136_138.out _; (with_reducible repeat (first | refine blk_drewN ?_ _ | refine blk_drew ?_ | refine blk_alloc ?_ _)); refine blk_far ?_ NB136_138.out _; (with_reducible repeat (first | refine blk_drewN ?_ _ | refine blk_drew ?_ | refine blk_alloc ?_ _)); exact BK136.out⟩, ⟨by repeat (first | (with_reducible first | exact HB.out | apply below_alloc | apply pw_below_drewN | apply below_drew1 | refine below_set ?_ GE136.out | refine below_set ?_ GE138.out) | exact HB.out)⟩⟩
                    · replace c54 := Bool.eq_false_iff.mpr c54
                      subst c54
                      have H1 : (refGranted0.l0 k1 a1 a2 true ((rd_T39 l0_1 x9_1).f2) (wrap64 (x9_1 + 1)) l0_0 l0_1 a0_2 a0_3) = some r := by rw [if_neg (show ¬ (false = true) by decide)] at H; exact H
                      clear H
                      have H := H1
                      clear H1
                      have H' := Aside0.mk H
                      clear H
                      have hcz59_0 : wr.cell? ⟨gb136, 0, none⟩ = some (.slice A0_0 l0_0.length c0_0) := (blk_cell BK136.out 0).trans rfl
                      have hcz59_1 : wr.cell? ⟨gb136, 1, none⟩ = some (.slice A0_1 l0_1.length c0_1) := (blk_cell BK136.out 1).trans rfl
                      have hcz59_2 : wr.cell? ⟨gb136, 2, none⟩ = some (.bool a0_2) := (blk_cell BK136.out 2).trans rfl
                      have hcz59_3 : wr.cell? ⟨gb136, 3, none⟩ = some (.string a0_3) := (blk_cell BK136.out 3).trans rfl
                      have hfz59_0 := blk_frozen BK136.out 0
                      have hfz59_1 := blk_frozen BK136.out 1
                      have hfz59_2 := blk_frozen BK136.out 2
                      have hfz59_3 := blk_frozen BK136.out 3
                      have p137 : 0 ≤ (x9_1 : Int) := of_decide_eq_true (by first | (with_reducible assumption) | assumption)
                      have q137 : x9_1 < (l0_1.length : Int) := of_decide_eq_true (by first | (with_reducible assumption) | assumption)
                      obtain ⟨ad137, e137, hx137_0, hx137_1, hx137_2⟩ := at_T39 HR0_1.out x9_1 p137 q137
                      cases e137
                      replace hx137_0 := (HB.out.cell (World.block_lt_of_cell? w _ hx137_0)).trans hx137_0
                      replace hx137_1 := (HB.out.cell (World.block_lt_of_cell? w _ hx137_1)).trans hx137_1
                      replace hx137_2 := (HB.out.cell (World.block_lt_of_cell? w _ hx137_2)).trans hx137_2
                      replace p137 := eq_true p137
                      replace q137 := eq_true q137
                      go_wp2_with (first | ((with_reducible refine gate_dst (N := 10) rfl ?_); refine box_event ?hg (N := 10) ?hd (cs := #[.string (⟨#[]⟩ : ByteArray), .bool false, .bool false]) (t := 39) ?hr ?_; (case hd => rfl); (case hg => rfl); (case hr => first | (go_simp; done) | (go_simp; rfl)); intro gb138 hg w60 hbox hb; have n0_ := Aside0.mk (blk_below (g := gb136) (o := .cells #[.slice A0_0 l0_0.length c0_0, .slice (some ad137) l0_1.length c0_1, .bool a0_2, .string a0_3] 30 (0, 0)) (by (with_reducible repeat (first | refine blk_drewN ?_ _ | refine blk_drew ?_ | refine blk_alloc ?_ _)); exact BK136.out) hb); have n1_ := Aside0.mk (below_step (by repeat (first | (with_reducible first | exact HB.out | apply below_alloc | apply pw_below_drewN | apply below_drew1 | refine below_set ?_ GE136.out) | exact HB.out)) hb); have n2_ := Aside0.mk (hbox); have n3_ := Aside0.mk ((by rw [hg]; exact (below_size (by repeat (first | (with_reducible first | exact HB.out | apply below_alloc | apply pw_below_drewN | apply below_drew1 | refine below_set ?_ GE136.out) | exact HB.out))) : w.heap.size ≤ gb138)); have n4_ := Aside0.mk ((by rw [hg]; exact (below_size (by repeat (first | (with_reducible first | exact HB.out | apply below_alloc | apply pw_below_drewN | apply below_drew1 | refine below_set ?_ GE136.out) | exact HB.out))) : w.heap.size ≤ gb138)); have n5_ := Aside0.mk ((by rw [hg]; exact Nat.ne_of_lt (blk_lt (g := gb136) (o := .cells #[.slice A0_0 l0_0.length c0_0, .slice (some ad137) l0_1.length c0_1, .bool a0_2, .string a0_3] 30 (0, 0)) (by (with_reducible repeat (first | refine blk_drewN ?_ _ | refine blk_drew ?_ | refine blk_alloc ?_ _)); exact BK136.out)) : gb136 ≠ gb138)); have n6_ := Aside0.mk ((by rw [hg]; exact Nat.ne_of_gt (blk_lt (g := gb136) (o := .cells #[.slice A0_0 l0_0.length c0_0, .slice (some ad137) l0_1.length c0_1, .bool a0_2, .string a0_3] 30 (0, 0)) (by (with_reducible repeat (first | refine blk_drewN ?_ _ | refine blk_drew ?_ | refine blk_alloc ?_ _)); exact BK136.out)) : gb138 ≠ gb136)); clear BK136; clear HB; have BK136 := n0_; have HB := n1_; have BK138 := n2_; have GW138 := n3_; have GE138 := n4_; have NB136_138 := n5_; have NB138_136 := n6_; clear n0_ n1_ n2_ n3_ n4_ n5_ n6_; clear hb hbox hg; have hnb61 := NB138_136.out; have hnc61 := NB136_138.out; have hcz62_0 : w60.cell? ⟨gb138, 0, none⟩ = some (.string (⟨#[]⟩ : ByteArray)) := (blk_cell BK138.out 0).trans rfl; have hcz62_1 : w60.cell? ⟨gb138, 1, none⟩ = some (.bool false) := (blk_cell BK138.out 1).trans rfl; have hcz62_2 : w60.cell? ⟨gb138, 2, none⟩ = some (.bool false) := (blk_cell BK138.out 2).trans rfl; have hfz62_0 := blk_frozen BK138.out 0; have hfz62_1 := blk_frozen BK138.out 1; have hfz62_2 := blk_frozen BK138.out 2))
                      go_roundg k1
                      case measure => have := HK1.out; omega
                      case rel => exact ⟨(true), ((rd_T39 l0_1 x9_1).f2), (wrap64 (x9_1 + 1)), (by first | rfl | (simp; done) | (simp [*]; done)), (by first | rfl | (simp; done) | (simp [*]; done)), (by first | rfl | (simp; done) | (simp [*]; done)), H', ⟨by have := HK1.out; omega⟩, ⟨by (with_reducible repeat (first | refine blk_drewN ?_ _ | refine blk_drew ?_ | refine blk_alloc ?_ _)); refine blk_far ?_ NB136_138.out _; (with_reducible repeat (first | refine blk_drewN ?_ _ | refine blk_drew ?_ | refine blk_alloc ?_ _)); refine blk_far ?_ NB136_138.out _; (with_reducible repeat (first | refine blk_drewN ?_ _ | refine blk_drew ?_ | refine blk_alloc ?_ _)); refine blk_far ?_ NB136_138.out _; (with_reducible repeat (first | refine blk_drewN ?_ _ | refine blk_drew ?_ | refine blk_alloc ?_ _)); exact BK136.out⟩, ⟨by repeat (first | (with_reducible first | exact HB.out | apply below_alloc | apply pw_below_drewN | apply below_drew1 | refine below_set ?_ GE136.out | refine below_set ?_ GE138.out) | exact HB.out)⟩⟩
                  · replace c53 := Bool.eq_false_iff.mpr c53
                    subst c53
                    have H1 : (if x8_1 = true then (refGranted0.l0 k1 a1 a2 ((rd_T39 l0_1 x9_1).f1) true (wrap64 (x9_1 + 1)) l0_0 l0_1 a0_2 a0_3) else (refGranted0.l0 k1 a1 a2 ((rd_T39 l0_1 x9_1).f1) ((rd_T39 l0_1 x9_1).f2) (wrap64 (x9_1 + 1)) l0_0 l0_1 a0_2 a0_3)) = some r := by rw [if_neg (show ¬ (false = true) by decide)] at H; exact H
                    clear H
                    have H := H1
                    clear H1
                    by_cases c63 : x8_1 = true
                    · subst c63
                      have H1 : (refGranted0.l0 k1 a1 a2 ((rd_T39 l0_1 x9_1).f1) true (wrap64 (x9_1 + 1)) l0_0 l0_1 a0_2 a0_3) = some r := by rw [if_pos rfl] at H; exact H
                      clear H
                      have H := H1
                      clear H1
                      have H' := Aside0.mk H
                      clear H
                      have hcz64_0 : wr.cell? ⟨gb136, 0, none⟩ = some (.slice A0_0 l0_0.length c0_0) := (blk_cell BK136.out 0).trans rfl
                      have hcz64_1 : wr.cell? ⟨gb136, 1, none⟩ = some (.slice A0_1 l0_1.length c0_1) := (blk_cell BK136.out 1).trans rfl
                      have hcz64_2 : wr.cell? ⟨gb136, 2, none⟩ = some (.bool a0_2) := (blk_cell BK136.out 2).trans rfl
                      have hcz64_3 : wr.cell? ⟨gb136, 3, none⟩ = some (.string a0_3) := (blk_cell BK136.out 3).trans rfl
                      have hfz64_0 := blk_frozen BK136.out 0
                      have hfz64_1 := blk_frozen BK136.out 1
                      have hfz64_2 := blk_frozen BK136.out 2
                      have hfz64_3 := blk_frozen BK136.out 3
                      have p137 : 0 ≤ (x9_1 : Int) := of_decide_eq_true (by first | (with_reducible assumption) | assumption)
                      have q137 : x9_1 < (l0_1.length : Int) := of_decide_eq_true (by first | (with_reducible assumption) | assumption)
                      obtain ⟨ad137, e137, hx137_0, hx137_1, hx137_2⟩ := at_T39 HR0_1.out x9_1 p137 q137
                      cases e137
                      replace hx137_0 := (HB.out.cell (World.block_lt_of_cell? w _ hx137_0)).trans hx137_0
                      replace hx137_1 := (HB.out.cell (World.block_lt_of_cell? w _ hx137_1)).trans hx137_1
                      replace hx137_2 := (HB.out.cell (World.block_lt_of_cell? w _ hx137_2)).trans hx137_2
                      replace p137 := eq_true p137
                      replace q137 := eq_true q137
                      go_wp2_with (first | ((with_reducible refine gate_dst (N := 10) rfl ?_); refine box_event ?hg (N := 10) ?hd (cs := #[.string (⟨#[]⟩ : ByteArray), .bool false, .bool false]) (t := 39) ?hr ?_; (case hd => rfl); (case hg => rfl); (case hr => first | (go_simp; done) | (go_simp; rfl)); intro gb138 hg w65 hbox hb; have n0_ := Aside0.mk (blk_below (g := gb136) (o := .cells #[.slice A0_0 l0_0.length c0_0, .slice (some ad137) l0_1.length c0_1, .bool a0_2, .string a0_3] 30 (0, 0)) (by (with_reducible repeat (first | refine blk_drewN ?_ _ | refine blk_drew ?_ | refine blk_alloc ?_ _)); exact BK136.out) hb); have n1_ := Aside0.mk (below_step (by repeat (first | (with_reducible first | exact HB.out | apply below_alloc | apply pw_below_drewN | apply below_drew1 | refine below_set ?_ GE136.out) | exact HB.out)) hb); have n2_ := Aside0.mk (hbox); have n3_ := Aside0.mk ((by rw [hg]; exact (below_size (by repeat (first | (with_reducible first | exact HB.out | apply below_alloc | apply pw_below_drewN | apply below_drew1 | refine below_set ?_ GE136.out) | exact HB.out))) : w.heap.size ≤ gb138)); have n4_ := Aside0.mk ((by rw [hg]; exact (below_size (by repeat (first | (with_reducible first | exact HB.out | apply below_alloc | apply pw_below_drewN | apply below_drew1 | refine below_set ?_ GE136.out) | exact HB.out))) : w.heap.size ≤ gb138)); have n5_ := Aside0.mk ((by rw [hg]; exact Nat.ne_of_lt (blk_lt (g := gb136) (o := .cells #[.slice A0_0 l0_0.length c0_0, .slice (some ad137) l0_1.length c0_1, .bool a0_2, .string a0_3] 30 (0, 0)) (by (with_reducible repeat (first | refine blk_drewN ?_ _ | refine blk_drew ?_ | refine blk_alloc ?_ _)); exact BK136.out)) : gb136 ≠ gb138)); have n6_ := Aside0.mk ((by rw [hg]; exact Nat.ne_of_gt (blk_lt (g := gb136) (o := .cells #[.slice A0_0 l0_0.length c0_0, .slice (some ad137) l0_1.length c0_1, .bool a0_2, .string a0_3] 30 (0, 0)) (by (with_reducible repeat (first | refine blk_drewN ?_ _ | refine blk_drew ?_ | refine blk_alloc ?_ _)); exact BK136.out)) : gb138 ≠ gb136)); clear BK136; clear HB; have BK136 := n0_; have HB := n1_; have BK138 := n2_; have GW138 := n3_; have GE138 := n4_; have NB136_138 := n5_; have NB138_136 := n6_; clear n0_ n1_ n2_ n3_ n4_ n5_ n6_; clear hb hbox hg; have hnb66 := NB138_136.out; have hnc66 := NB136_138.out; have hcz67_0 : w65.cell? ⟨gb138, 0, none⟩ = some (.string (⟨#[]⟩ : ByteArray)) := (blk_cell BK138.out 0).trans rfl; have hcz67_1 : w65.cell? ⟨gb138, 1, none⟩ = some (.bool false) := (blk_cell BK138.out 1).trans rfl; have hcz67_2 : w65.cell? ⟨gb138, 2, none⟩ = some (.bool false) := (blk_cell BK138.out 2).trans rfl; have hfz67_0 := blk_frozen BK138.out 0; have hfz67_1 := blk_frozen BK138.out 1; have hfz67_2 := blk_frozen BK138.out 2))
                      go_roundg k1
                      case measure => have := HK1.out; omega
                      case rel => exact ⟨((rd_T39 l0_1 x9_1).f1), (true), (wrap64 (x9_1 + 1)), (by first | rfl | (simp; done) | (simp [*]; done)), (by first | rfl | (simp; done) | (simp [*]; done)), (by first | rfl | (simp; done) | (simp [*]; done)), H', ⟨by have := HK1.out; omega⟩, ⟨by (with_reducible repeat (first | refine blk_drewN ?_ _ | refine blk_drew ?_ | refine blk_alloc ?_ _)); refine blk_far ?_ NB136_138.out _; (with_reducible repeat (first | refine blk_drewN ?_ _ | refine blk_drew ?_ | refine blk_alloc ?_ _)); refine blk_far ?_ NB136_138.out _; (with_reducible repeat (first | refine blk_drewN ?_ _ | refine blk_drew ?_ | refine blk_alloc ?_ _)); refine blk_far ?_ NB136_138.out _; (with_reducible repeat (first | refine blk_drewN ?_ _ | refine blk_drew ?_ | refine blk_alloc ?_ _)); exact BK136.out⟩, ⟨by repeat (first | (with_reducible first | exact HB.out | apply below_alloc | apply pw_below_drewN | apply below_drew1 | refine below_set ?_ GE136.out | refine below_set ?_ GE138.out) | exact HB.out)⟩⟩
                    · replace c63 := Bool.eq_false_iff.mpr c63
                      subst c63
                      have H1 : (refGranted0.l0 k1 a1 a2 ((rd_T39 l0_1 x9_1).f1) ((rd_T39 l0_1 x9_1).f2) (wrap64 (x9_1 + 1)) l0_0 l0_1 a0_2 a0_3) = some r := by rw [if_neg (show ¬ (false = true) by decide)] at H; exact H
                      clear H
                      have H := H1
                      clear H1
                      have H' := Aside0.mk H
                      clear H
                      have hcz68_0 : wr.cell? ⟨gb136, 0, none⟩ = some (.slice A0_0 l0_0.length c0_0) := (blk_cell BK136.out 0).trans rfl
                      have hcz68_1 : wr.cell? ⟨gb136, 1, none⟩ = some (.slice A0_1 l0_1.length c0_1) := (blk_cell BK136.out 1).trans rfl
                      have hcz68_2 : wr.cell? ⟨gb136, 2, none⟩ = some (.bool a0_2) := (blk_cell BK136.out 2).trans rfl
                      have hcz68_3 : wr.cell? ⟨gb136, 3, none⟩ = some (.string a0_3) := (blk_cell BK136.out 3).trans rfl
                      have hfz68_0 := blk_frozen BK136.out 0
                      have hfz68_1 := blk_frozen BK136.out 1
                      have hfz68_2 := blk_frozen BK136.out 2
                      have hfz68_3 := blk_frozen BK136.out 3
                      have p137 : 0 ≤ (x9_1 : Int) := of_decide_eq_true (by first | (with_reducible assumption) | assumption)
                      have q137 : x9_1 < (l0_1.length : Int) := of_decide_eq_true (by first | (with_reducible assumption) | assumption)
                      obtain ⟨ad137, e137, hx137_0, hx137_1, hx137_2⟩ := at_T39 HR0_1.out x9_1 p137 q137
                      cases e137
                      replace hx137_0 := (HB.out.cell (World.block_lt_of_cell? w _ hx137_0)).trans hx137_0
                      replace hx137_1 := (HB.out.cell (World.block_lt_of_cell? w _ hx137_1)).trans hx137_1
                      replace hx137_2 := (HB.out.cell (World.block_lt_of_cell? w _ hx137_2)).trans hx137_2
                      replace p137 := eq_true p137
                      replace q137 := eq_true q137
                      go_wp2_with (first | ((with_reducible refine gate_dst (N := 10) rfl ?_); refine box_event ?hg (N := 10) ?hd (cs := #[.string (⟨#[]⟩ : ByteArray), .bool false, .bool false]) (t := 39) ?hr ?_; (case hd => rfl); (case hg => rfl); (case hr => first | (go_simp; done) | (go_simp; rfl)); intro gb138 hg w69 hbox hb; have n0_ := Aside0.mk (blk_below (g := gb136) (o := .cells #[.slice A0_0 l0_0.length c0_0, .slice (some ad137) l0_1.length c0_1, .bool a0_2, .string a0_3] 30 (0, 0)) (by (with_reducible repeat (first | refine blk_drewN ?_ _ | refine blk_drew ?_ | refine blk_alloc ?_ _)); exact BK136.out) hb); have n1_ := Aside0.mk (below_step (by repeat (first | (with_reducible first | exact HB.out | apply below_alloc | apply pw_below_drewN | apply below_drew1 | refine below_set ?_ GE136.out) | exact HB.out)) hb); have n2_ := Aside0.mk (hbox); have n3_ := Aside0.mk ((by rw [hg]; exact (below_size (by repeat (first | (with_reducible first | exact HB.out | apply below_alloc | apply pw_below_drewN | apply below_drew1 | refine below_set ?_ GE136.out) | exact HB.out))) : w.heap.size ≤ gb138)); have n4_ := Aside0.mk ((by rw [hg]; exact (below_size (by repeat (first | (with_reducible first | exact HB.out | apply below_alloc | apply pw_below_drewN | apply below_drew1 | refine below_set ?_ GE136.out) | exact HB.out))) : w.heap.size ≤ gb138)); have n5_ := Aside0.mk ((by rw [hg]; exact Nat.ne_of_lt (blk_lt (g := gb136) (o := .cells #[.slice A0_0 l0_0.length c0_0, .slice (some ad137) l0_1.length c0_1, .bool a0_2, .string a0_3] 30 (0, 0)) (by (with_reducible repeat (first | refine blk_drewN ?_ _ | refine blk_drew ?_ | refine blk_alloc ?_ _)); exact BK136.out)) : gb136 ≠ gb138)); have n6_ := Aside0.mk ((by rw [hg]; exact Nat.ne_of_gt (blk_lt (g := gb136) (o := .cells #[.slice A0_0 l0_0.length c0_0, .slice (some ad137) l0_1.length c0_1, .bool a0_2, .string a0_3] 30 (0, 0)) (by (with_reducible repeat (first | refine blk_drewN ?_ _ | refine blk_drew ?_ | refine blk_alloc ?_ _)); exact BK136.out)) : gb138 ≠ gb136)); clear BK136; clear HB; have BK136 := n0_; have HB := n1_; have BK138 := n2_; have GW138 := n3_; have GE138 := n4_; have NB136_138 := n5_; have NB138_136 := n6_; clear n0_ n1_ n2_ n3_ n4_ n5_ n6_; clear hb hbox hg; have hnb70 := NB138_136.out; have hnc70 := NB136_138.out; have hcz71_0 : w69.cell? ⟨gb138, 0, none⟩ = some (.string (⟨#[]⟩ : ByteArray)) := (blk_cell BK138.out 0).trans rfl; have hcz71_1 : w69.cell? ⟨gb138, 1, none⟩ = some (.bool false) := (blk_cell BK138.out 1).trans rfl; have hcz71_2 : w69.cell? ⟨gb138, 2, none⟩ = some (.bool false) := (blk_cell BK138.out 2).trans rfl; have hfz71_0 := blk_frozen BK138.out 0; have hfz71_1 := blk_frozen BK138.out 1; have hfz71_2 := blk_frozen BK138.out 2))
                      go_roundg k1
                      case measure => have := HK1.out; omega
                      case rel => exact ⟨((rd_T39 l0_1 x9_1).f1), ((rd_T39 l0_1 x9_1).f2), (wrap64 (x9_1 + 1)), (by first | rfl | (simp; done) | (simp [*]; done)), (by first | rfl | (simp; done) | (simp [*]; done)), (by first | rfl | (simp; done) | (simp [*]; done)), H', ⟨by have := HK1.out; omega⟩, ⟨by (with_reducible repeat (first | refine blk_drewN ?_ _ | refine blk_drew ?_ | refine blk_alloc ?_ _)); refine blk_far ?_ NB136_138.out _; (with_reducible repeat (first | refine blk_drewN ?_ _ | refine blk_drew ?_ | refine blk_alloc ?_ _)); refine blk_far ?_ NB136_138.out _; (with_reducible repeat (first | refine blk_drewN ?_ _ | refine blk_drew ?_ | refine blk_alloc ?_ _)); refine blk_far ?_ NB136_138.out _; (with_reducible repeat (first | refine blk_drewN ?_ _ | refine blk_drew ?_ | refine blk_alloc ?_ _)); exact BK136.out⟩, ⟨by repeat (first | (with_reducible first | exact HB.out | apply below_alloc | apply pw_below_drewN | apply below_drew1 | refine below_set ?_ GE136.out | refine below_set ?_ GE138.out) | exact HB.out)⟩⟩
                · rw [if_neg c52] at H
                  have c52b0 : (((rd_T39 l0_1 x9_1).f0).toList == a1.toList) = false := beq_eq_false_iff_ne.mpr c52
                  have c52b1 : (((rd_T39 l0_1 x9_1).f0).toList != a1.toList) = true := bne_iff_ne.mpr c52
                  have H' := Aside0.mk H
                  clear H
                  have hcz72_0 : wr.cell? ⟨gb136, 0, none⟩ = some (.slice A0_0 l0_0.length c0_0) := (blk_cell BK136.out 0).trans rfl
                  have hcz72_1 : wr.cell? ⟨gb136, 1, none⟩ = some (.slice A0_1 l0_1.length c0_1) := (blk_cell BK136.out 1).trans rfl
                  have hcz72_2 : wr.cell? ⟨gb136, 2, none⟩ = some (.bool a0_2) := (blk_cell BK136.out 2).trans rfl
                  have hcz72_3 : wr.cell? ⟨gb136, 3, none⟩ = some (.string a0_3) := (blk_cell BK136.out 3).trans rfl
                  have hfz72_0 := blk_frozen BK136.out 0
                  have hfz72_1 := blk_frozen BK136.out 1
                  have hfz72_2 := blk_frozen BK136.out 2
                  have hfz72_3 := blk_frozen BK136.out 3
                  have p137 : 0 ≤ (x9_1 : Int) := of_decide_eq_true (by first | (with_reducible assumption) | assumption)
                  have q137 : x9_1 < (l0_1.length : Int) := of_decide_eq_true (by first | (with_reducible assumption) | assumption)
                  obtain ⟨ad137, e137, hx137_0, hx137_1, hx137_2⟩ := at_T39 HR0_1.out x9_1 p137 q137
                  cases e137
                  replace hx137_0 := (HB.out.cell (World.block_lt_of_cell? w _ hx137_0)).trans hx137_0
                  replace hx137_1 := (HB.out.cell (World.block_lt_of_cell? w _ hx137_1)).trans hx137_1
                  replace hx137_2 := (HB.out.cell (World.block_lt_of_cell? w _ hx137_2)).trans hx137_2
                  replace p137 := eq_true p137
                  replace q137 := eq_true q137
                  go_wp2_with (first | ((with_reducible refine gate_dst (N := 10) rfl ?_); refine box_event ?hg (N := 10) ?hd (cs := #[.string (⟨#[]⟩ : ByteArray), .bool false, .bool false]) (t := 39) ?hr ?_; (case hd => rfl); (case hg => rfl); (case hr => first | (go_simp; done) | (go_simp; rfl)); intro gb138 hg w73 hbox hb; have n0_ := Aside0.mk (blk_below (g := gb136) (o := .cells #[.slice A0_0 l0_0.length c0_0, .slice (some ad137) l0_1.length c0_1, .bool a0_2, .string a0_3] 30 (0, 0)) (by (with_reducible repeat (first | refine blk_drewN ?_ _ | refine blk_drew ?_ | refine blk_alloc ?_ _)); exact BK136.out) hb); have n1_ := Aside0.mk (below_step (by repeat (first | (with_reducible first | exact HB.out | apply below_alloc | apply pw_below_drewN | apply below_drew1 | refine below_set ?_ GE136.out) | exact HB.out)) hb); have n2_ := Aside0.mk (hbox); have n3_ := Aside0.mk ((by rw [hg]; exact (below_size (by repeat (first | (with_reducible first | exact HB.out | apply below_alloc | apply pw_below_drewN | apply below_drew1 | refine below_set ?_ GE136.out) | exact HB.out))) : w.heap.size ≤ gb138)); have n4_ := Aside0.mk ((by rw [hg]; exact (below_size (by repeat (first | (with_reducible first | exact HB.out | apply below_alloc | apply pw_below_drewN | apply below_drew1 | refine below_set ?_ GE136.out) | exact HB.out))) : w.heap.size ≤ gb138)); have n5_ := Aside0.mk ((by rw [hg]; exact Nat.ne_of_lt (blk_lt (g := gb136) (o := .cells #[.slice A0_0 l0_0.length c0_0, .slice (some ad137) l0_1.length c0_1, .bool a0_2, .string a0_3] 30 (0, 0)) (by (with_reducible repeat (first | refine blk_drewN ?_ _ | refine blk_drew ?_ | refine blk_alloc ?_ _)); exact BK136.out)) : gb136 ≠ gb138)); have n6_ := Aside0.mk ((by rw [hg]; exact Nat.ne_of_gt (blk_lt (g := gb136) (o := .cells #[.slice A0_0 l0_0.length c0_0, .slice (some ad137) l0_1.length c0_1, .bool a0_2, .string a0_3] 30 (0, 0)) (by (with_reducible repeat (first | refine blk_drewN ?_ _ | refine blk_drew ?_ | refine blk_alloc ?_ _)); exact BK136.out)) : gb138 ≠ gb136)); clear BK136; clear HB; have BK136 := n0_; have HB := n1_; have BK138 := n2_; have GW138 := n3_; have GE138 := n4_; have NB136_138 := n5_; have NB138_136 := n6_; clear n0_ n1_ n2_ n3_ n4_ n5_ n6_; clear hb hbox hg; have hnb74 := NB138_136.out; have hnc74 := NB136_138.out; have hcz75_0 : w73.cell? ⟨gb138, 0, none⟩ = some (.string (⟨#[]⟩ : ByteArray)) := (blk_cell BK138.out 0).trans rfl; have hcz75_1 : w73.cell? ⟨gb138, 1, none⟩ = some (.bool false) := (blk_cell BK138.out 1).trans rfl; have hcz75_2 : w73.cell? ⟨gb138, 2, none⟩ = some (.bool false) := (blk_cell BK138.out 2).trans rfl; have hfz75_0 := blk_frozen BK138.out 0; have hfz75_1 := blk_frozen BK138.out 1; have hfz75_2 := blk_frozen BK138.out 2))
                  go_roundg k1
                  case measure => have := HK1.out; omega
                  case rel => exact ⟨(x7_1), (x8_1), (wrap64 (x9_1 + 1)), (by first | rfl | (simp; done) | (simp [*]; done)), (by first | rfl | (simp; done) | (simp [*]; done)), (by first | rfl | (simp; done) | (simp [*]; done)), H', ⟨by have := HK1.out; omega⟩, ⟨by (with_reducible repeat (first | refine blk_drewN ?_ _ | refine blk_drew ?_ | refine blk_alloc ?_ _)); refine blk_far ?_ NB136_138.out _; (with_reducible repeat (first | refine blk_drewN ?_ _ | refine blk_drew ?_ | refine blk_alloc ?_ _)); refine blk_far ?_ NB136_138.out _; (with_reducible repeat (first | refine blk_drewN ?_ _ | refine blk_drew ?_ | refine blk_alloc ?_ _)); refine blk_far ?_ NB136_138.out _; (with_reducible repeat (first | refine blk_drewN ?_ _ | refine blk_drew ?_ | refine blk_alloc ?_ _)); exact BK136.out⟩, ⟨by repeat (first | (with_reducible first | exact HB.out | apply below_alloc | apply pw_below_drewN | apply below_drew1 | refine below_set ?_ GE136.out | refine below_set ?_ GE138.out) | exact HB.out)⟩⟩
        · rw [if_neg c6] at H
          exact absurd H (by simp)
      · rw [if_neg c5] at H
        have c5b0 : decide (x9_1 < (l0_1.length : Int)) = false := decide_eq_false c5
        clear c5
        by_cases c76 : a2.toList = ([71, 69, 84] : List UInt8)
        · rw [if_pos c76] at H
          have c76b0 : (a2.toList == ([71, 69, 84] : List UInt8)) = true := beq_iff_eq.mpr c76
          have c76b1 : (a2.toList != ([71, 69, 84] : List UInt8)) = false := bne_eq_false_iff_eq.mpr c76
          clear c76
          by_cases c77 : x7_1 = true
          · subst c77
            have H1 : (some true) = some r := by rw [if_pos rfl] at H; exact H
            clear H
            have H := H1
            clear H1
            obtain rfl := Option.some.inj H
            have hcz78_0 : wr.cell? ⟨gb136, 0, none⟩ = some (.slice A0_0 l0_0.length c0_0) := (blk_cell BK136.out 0).trans rfl
            have hcz78_1 : wr.cell? ⟨gb136, 1, none⟩ = some (.slice A0_1 l0_1.length c0_1) := (blk_cell BK136.out 1).trans rfl
            have hcz78_2 : wr.cell? ⟨gb136, 2, none⟩ = some (.bool a0_2) := (blk_cell BK136.out 2).trans rfl
            have hcz78_3 : wr.cell? ⟨gb136, 3, none⟩ = some (.string a0_3) := (blk_cell BK136.out 3).trans rfl
            have hfz78_0 := blk_frozen BK136.out 0
            have hfz78_1 := blk_frozen BK136.out 1
            have hfz78_2 := blk_frozen BK136.out 2
            have hfz78_3 := blk_frozen BK136.out 3
            go_wp2
            go_ret
            exact ⟨by first | rfl | (simp [errW_none, errW_some] <;> rfl) | (simp [*, errW_none, errW_some] <;> rfl), by repeat (first | (with_reducible first | exact HB.out | apply below_alloc | apply pw_below_drewN | apply below_drew1 | refine below_set ?_ GE136.out) | exact HB.out)⟩
          · replace c77 := Bool.eq_false_iff.mpr c77
            subst c77
            have H1 : (if a2.toList = ([72, 69, 65, 68] : List UInt8) then (if x8_1 = true then (some true) else (if a2.toList = ([79, 80, 84, 73, 79, 78, 83] : List UInt8) then (some x8_1) else (some false))) else (if a2.toList = ([79, 80, 84, 73, 79, 78, 83] : List UInt8) then (some x8_1) else (some false))) = some r := by rw [if_neg (show ¬ (false = true) by decide)] at H; exact H
            clear H
            have H := H1
            clear H1
            by_cases c79 : a2.toList = ([72, 69, 65, 68] : List UInt8)
            · rw [if_pos c79] at H
              have c79b0 : (a2.toList == ([72, 69, 65, 68] : List UInt8)) = true := beq_iff_eq.mpr c79
              have c79b1 : (a2.toList != ([72, 69, 65, 68] : List UInt8)) = false := bne_eq_false_iff_eq.mpr c79
              clear c79
              by_cases c80 : x8_1 = true
              · subst c80
                have H1 : (some true) = some r := by rw [if_pos rfl] at H; exact H
                clear H
                have H := H1
                clear H1
                obtain rfl := Option.some.inj H
                have hcz81_0 : wr.cell? ⟨gb136, 0, none⟩ = some (.slice A0_0 l0_0.length c0_0) := (blk_cell BK136.out 0).trans rfl
                have hcz81_1 : wr.cell? ⟨gb136, 1, none⟩ = some (.slice A0_1 l0_1.length c0_1) := (blk_cell BK136.out 1).trans rfl
                have hcz81_2 : wr.cell? ⟨gb136, 2, none⟩ = some (.bool a0_2) := (blk_cell BK136.out 2).trans rfl
                have hcz81_3 : wr.cell? ⟨gb136, 3, none⟩ = some (.string a0_3) := (blk_cell BK136.out 3).trans rfl
                have hfz81_0 := blk_frozen BK136.out 0
                have hfz81_1 := blk_frozen BK136.out 1
                have hfz81_2 := blk_frozen BK136.out 2
                have hfz81_3 := blk_frozen BK136.out 3
                go_wp2
                go_ret
                exact ⟨by first | rfl | (simp [errW_none, errW_some] <;> rfl) | (simp [*, errW_none, errW_some] <;> rfl), by repeat (first | (with_reducible first | exact HB.out | apply below_alloc | apply pw_below_drewN | apply below_drew1 | refine below_set ?_ GE136.out) | exact HB.out)⟩
              · replace c80 := Bool.eq_false_iff.mpr c80
                subst c80
                have H1 : (if a2.toList = ([79, 80, 84, 73, 79, 78, 83] : List UInt8) then (some false) else (some false)) = some r := by rw [if_neg (show ¬ (false = true) by decide)] at H; exact H
                clear H
                have H := H1
                clear H1
                by_cases c82 : a2.toList = ([79, 80, 84, 73, 79, 78, 83] : List UInt8)
                · rw [if_pos c82] at H
                  have c82b0 : (a2.toList == ([79, 80, 84, 73, 79, 78, 83] : List UInt8)) = true := beq_iff_eq.mpr c82
                  have c82b1 : (a2.toList != ([79, 80, 84, 73, 79, 78, 83] : List UInt8)) = false := bne_eq_false_iff_eq.mpr c82
                  clear c82
                  obtain rfl := Option.some.inj H
                  have hcz83_0 : wr.cell? ⟨gb136, 0, none⟩ = some (.slice A0_0 l0_0.length c0_0) := (blk_cell BK136.out 0).trans rfl
                  have hcz83_1 : wr.cell? ⟨gb136, 1, none⟩ = some (.slice A0_1 l0_1.length c0_1) := (blk_cell BK136.out 1).trans rfl
                  have hcz83_2 : wr.cell? ⟨gb136, 2, none⟩ = some (.bool a0_2) := (blk_cell BK136.out 2).trans rfl
                  have hcz83_3 : wr.cell? ⟨gb136, 3, none⟩ = some (.string a0_3) := (blk_cell BK136.out 3).trans rfl
                  have hfz83_0 := blk_frozen BK136.out 0
                  have hfz83_1 := blk_frozen BK136.out 1
                  have hfz83_2 := blk_frozen BK136.out 2
                  have hfz83_3 := blk_frozen BK136.out 3
                  go_wp2
                  go_ret
                  exact ⟨by first | rfl | (simp [errW_none, errW_some] <;> rfl) | (simp [*, errW_none, errW_some] <;> rfl), by repeat (first | (with_reducible first | exact HB.out | apply below_alloc | apply pw_below_drewN | apply below_drew1 | refine below_set ?_ GE136.out) | exact HB.out)⟩
                · rw [if_neg c82] at H
                  have c82b0 : (a2.toList == ([79, 80, 84, 73, 79, 78, 83] : List UInt8)) = false := beq_eq_false_iff_ne.mpr c82
                  have c82b1 : (a2.toList != ([79, 80, 84, 73, 79, 78, 83] : List UInt8)) = true := bne_iff_ne.mpr c82
                  obtain rfl := Option.some.inj H
                  have hcz84_0 : wr.cell? ⟨gb136, 0, none⟩ = some (.slice A0_0 l0_0.length c0_0) := (blk_cell BK136.out 0).trans rfl
                  have hcz84_1 : wr.cell? ⟨gb136, 1, none⟩ = some (.slice A0_1 l0_1.length c0_1) := (blk_cell BK136.out 1).trans rfl
                  have hcz84_2 : wr.cell? ⟨gb136, 2, none⟩ = some (.bool a0_2) := (blk_cell BK136.out 2).trans rfl
                  have hcz84_3 : wr.cell? ⟨gb136, 3, none⟩ = some (.string a0_3) := (blk_cell BK136.out 3).trans rfl
                  have hfz84_0 := blk_frozen BK136.out 0
                  have hfz84_1 := blk_frozen BK136.out 1
                  have hfz84_2 := blk_frozen BK136.out 2
                  have hfz84_3 := blk_frozen BK136.out 3
                  go_wp2
                  go_ret
                  exact ⟨by first | rfl | (simp [errW_none, errW_some] <;> rfl) | (simp [*, errW_none, errW_some] <;> rfl), by repeat (first | (with_reducible first | exact HB.out | apply below_alloc | apply pw_below_drewN | apply below_drew1 | refine below_set ?_ GE136.out) | exact HB.out)⟩
            · rw [if_neg c79] at H
              have c79b0 : (a2.toList == ([72, 69, 65, 68] : List UInt8)) = false := beq_eq_false_iff_ne.mpr c79
              have c79b1 : (a2.toList != ([72, 69, 65, 68] : List UInt8)) = true := bne_iff_ne.mpr c79
              by_cases c85 : a2.toList = ([79, 80, 84, 73, 79, 78, 83] : List UInt8)
              · rw [if_pos c85] at H
                have c85b0 : (a2.toList == ([79, 80, 84, 73, 79, 78, 83] : List UInt8)) = true := beq_iff_eq.mpr c85
                have c85b1 : (a2.toList != ([79, 80, 84, 73, 79, 78, 83] : List UInt8)) = false := bne_eq_false_iff_eq.mpr c85
                clear c85
                obtain rfl := Option.some.inj H
                have hcz86_0 : wr.cell? ⟨gb136, 0, none⟩ = some (.slice A0_0 l0_0.length c0_0) := (blk_cell BK136.out 0).trans rfl
                have hcz86_1 : wr.cell? ⟨gb136, 1, none⟩ = some (.slice A0_1 l0_1.length c0_1) := (blk_cell BK136.out 1).trans rfl
                have hcz86_2 : wr.cell? ⟨gb136, 2, none⟩ = some (.bool a0_2) := (blk_cell BK136.out 2).trans rfl
                have hcz86_3 : wr.cell? ⟨gb136, 3, none⟩ = some (.string a0_3) := (blk_cell BK136.out 3).trans rfl
                have hfz86_0 := blk_frozen BK136.out 0
                have hfz86_1 := blk_frozen BK136.out 1
                have hfz86_2 := blk_frozen BK136.out 2
                have hfz86_3 := blk_frozen BK136.out 3
                go_wp2
                go_ret
                exact ⟨by first | rfl | (simp [errW_none, errW_some] <;> rfl) | (simp [*, errW_none, errW_some] <;> rfl), by repeat (first | (with_reducible first | exact HB.out | apply below_alloc | apply pw_below_drewN | apply below_drew1 | refine below_set ?_ GE136.out) | exact HB.out)⟩
              · rw [if_neg c85] at H
                have c85b0 : (a2.toList == ([79, 80, 84, 73, 79, 78, 83] : List UInt8)) = false := beq_eq_false_iff_ne.mpr c85
                have c85b1 : (a2.toList != ([79, 80, 84, 73, 79, 78, 83] : List UInt8)) = true := bne_iff_ne.mpr c85
                obtain rfl := Option.some.inj H
                have hcz87_0 : wr.cell? ⟨gb136, 0, none⟩ = some (.slice A0_0 l0_0.length c0_0) := (blk_cell BK136.out 0).trans rfl
                have hcz87_1 : wr.cell? ⟨gb136, 1, none⟩ = some (.slice A0_1 l0_1.length c0_1) := (blk_cell BK136.out 1).trans rfl
                have hcz87_2 : wr.cell? ⟨gb136, 2, none⟩ = some (.bool a0_2) := (blk_cell BK136.out 2).trans rfl
                have hcz87_3 : wr.cell? ⟨gb136, 3, none⟩ = some (.string a0_3) := (blk_cell BK136.out 3).trans rfl
                have hfz87_0 := blk_frozen BK136.out 0
                have hfz87_1 := blk_frozen BK136.out 1
                have hfz87_2 := blk_frozen BK136.out 2
                have hfz87_3 := blk_frozen BK136.out 3
                go_wp2
                go_ret
                exact ⟨by first | rfl | (simp [errW_none, errW_some] <;> rfl) | (simp [*, errW_none, errW_some] <;> rfl), by repeat (first | (with_reducible first | exact HB.out | apply below_alloc | apply pw_below_drewN | apply below_drew1 | refine below_set ?_ GE136.out) | exact HB.out)⟩
        · rw [if_neg c76] at H
          have c76b0 : (a2.toList == ([71, 69, 84] : List UInt8)) = false := beq_eq_false_iff_ne.mpr c76
          have c76b1 : (a2.toList != ([71, 69, 84] : List UInt8)) = true := bne_iff_ne.mpr c76
          by_cases c88 : a2.toList = ([72, 69, 65, 68] : List UInt8)
          · rw [if_pos c88] at H
            have c88b0 : (a2.toList == ([72, 69, 65, 68] : List UInt8)) = true := beq_iff_eq.mpr c88
            have c88b1 : (a2.toList != ([72, 69, 65, 68] : List UInt8)) = false := bne_eq_false_iff_eq.mpr c88
            clear c88
            by_cases c89 : x8_1 = true
            · subst c89
              have H1 : (some true) = some r := by rw [if_pos rfl] at H; exact H
              clear H
              have H := H1
              clear H1
              obtain rfl := Option.some.inj H
              have hcz90_0 : wr.cell? ⟨gb136, 0, none⟩ = some (.slice A0_0 l0_0.length c0_0) := (blk_cell BK136.out 0).trans rfl
              have hcz90_1 : wr.cell? ⟨gb136, 1, none⟩ = some (.slice A0_1 l0_1.length c0_1) := (blk_cell BK136.out 1).trans rfl
              have hcz90_2 : wr.cell? ⟨gb136, 2, none⟩ = some (.bool a0_2) := (blk_cell BK136.out 2).trans rfl
              have hcz90_3 : wr.cell? ⟨gb136, 3, none⟩ = some (.string a0_3) := (blk_cell BK136.out 3).trans rfl
              have hfz90_0 := blk_frozen BK136.out 0
              have hfz90_1 := blk_frozen BK136.out 1
              have hfz90_2 := blk_frozen BK136.out 2
              have hfz90_3 := blk_frozen BK136.out 3
              go_wp2
              go_ret
              exact ⟨by first | rfl | (simp [errW_none, errW_some] <;> rfl) | (simp [*, errW_none, errW_some] <;> rfl), by repeat (first | (with_reducible first | exact HB.out | apply below_alloc | apply pw_below_drewN | apply below_drew1 | refine below_set ?_ GE136.out) | exact HB.out)⟩
            · replace c89 := Bool.eq_false_iff.mpr c89
              subst c89
              have H1 : (if a2.toList = ([79, 80, 84, 73, 79, 78, 83] : List UInt8) then (if x7_1 = true then (some true) else (some false)) else (some false)) = some r := by rw [if_neg (show ¬ (false = true) by decide)] at H; exact H
              clear H
              have H := H1
              clear H1
              by_cases c91 : a2.toList = ([79, 80, 84, 73, 79, 78, 83] : List UInt8)
              · rw [if_pos c91] at H
                have c91b0 : (a2.toList == ([79, 80, 84, 73, 79, 78, 83] : List UInt8)) = true := beq_iff_eq.mpr c91
                have c91b1 : (a2.toList != ([79, 80, 84, 73, 79, 78, 83] : List UInt8)) = false := bne_eq_false_iff_eq.mpr c91
                clear c91
                by_cases c92 : x7_1 = true
                · subst c92
                  have H1 : (some true) = some r := by rw [if_pos rfl] at H; exact H
                  clear H
                  have H := H1
                  clear H1
                  obtain rfl := Option.some.inj H
                  have hcz93_0 : wr.cell? ⟨gb136, 0, none⟩ = some (.slice A0_0 l0_0.length c0_0) := (blk_cell BK136.out 0).trans rfl
                  have hcz93_1 : wr.cell? ⟨gb136, 1, none⟩ = some (.slice A0_1 l0_1.length c0_1) := (blk_cell BK136.out 1).trans rfl
                  have hcz93_2 : wr.cell? ⟨gb136, 2, none⟩ = some (.bool a0_2) := (blk_cell BK136.out 2).trans rfl
                  have hcz93_3 : wr.cell? ⟨gb136, 3, none⟩ = some (.string a0_3) := (blk_cell BK136.out 3).trans rfl
                  have hfz93_0 := blk_frozen BK136.out 0
                  have hfz93_1 := blk_frozen BK136.out 1
                  have hfz93_2 := blk_frozen BK136.out 2
                  have hfz93_3 := blk_frozen BK136.out 3
                  go_wp2
                  go_ret
                  exact ⟨by first | rfl | (simp [errW_none, errW_some] <;> rfl) | (simp [*, errW_none, errW_some] <;> rfl), by repeat (first | (with_reducible first | exact HB.out | apply below_alloc | apply pw_below_drewN | apply below_drew1 | refine below_set ?_ GE136.out) | exact HB.out)⟩
                · replace c92 := Bool.eq_false_iff.mpr c92
                  subst c92
                  have H1 : (some false) = some r := by rw [if_neg (show ¬ (false = true) by decide)] at H; exact H
                  clear H
                  have H := H1
                  clear H1
                  obtain rfl := Option.some.inj H
                  have hcz94_0 : wr.cell? ⟨gb136, 0, none⟩ = some (.slice A0_0 l0_0.length c0_0) := (blk_cell BK136.out 0).trans rfl
                  have hcz94_1 : wr.cell? ⟨gb136, 1, none⟩ = some (.slice A0_1 l0_1.length c0_1) := (blk_cell BK136.out 1).trans rfl
                  have hcz94_2 : wr.cell? ⟨gb136, 2, none⟩ = some (.bool a0_2) := (blk_cell BK136.out 2).trans rfl
                  have hcz94_3 : wr.cell? ⟨gb136, 3, none⟩ = some (.string a0_3) := (blk_cell BK136.out 3).trans rfl
                  have hfz94_0 := blk_frozen BK136.out 0
                  have hfz94_1 := blk_frozen BK136.out 1
                  have hfz94_2 := blk_frozen BK136.out 2
                  have hfz94_3 := blk_frozen BK136.out 3
                  go_wp2
                  go_ret
                  exact ⟨by first | rfl | (simp [errW_none, errW_some] <;> rfl) | (simp [*, errW_none, errW_some] <;> rfl), by repeat (first | (with_reducible first | exact HB.out | apply below_alloc | apply pw_below_drewN | apply below_drew1 | refine below_set ?_ GE136.out) | exact HB.out)⟩
              · rw [if_neg c91] at H
                have c91b0 : (a2.toList == ([79, 80, 84, 73, 79, 78, 83] : List UInt8)) = false := beq_eq_false_iff_ne.mpr c91
                have c91b1 : (a2.toList != ([79, 80, 84, 73, 79, 78, 83] : List UInt8)) = true := bne_iff_ne.mpr c91
                obtain rfl := Option.some.inj H
                have hcz95_0 : wr.cell? ⟨gb136, 0, none⟩ = some (.slice A0_0 l0_0.length c0_0) := (blk_cell BK136.out 0).trans rfl
                have hcz95_1 : wr.cell? ⟨gb136, 1, none⟩ = some (.slice A0_1 l0_1.length c0_1) := (blk_cell BK136.out 1).trans rfl
                have hcz95_2 : wr.cell? ⟨gb136, 2, none⟩ = some (.bool a0_2) := (blk_cell BK136.out 2).trans rfl
                have hcz95_3 : wr.cell? ⟨gb136, 3, none⟩ = some (.string a0_3) := (blk_cell BK136.out 3).trans rfl
                have hfz95_0 := blk_frozen BK136.out 0
                have hfz95_1 := blk_frozen BK136.out 1
                have hfz95_2 := blk_frozen BK136.out 2
                have hfz95_3 := blk_frozen BK136.out 3
                go_wp2
                go_ret
                exact ⟨by first | rfl | (simp [errW_none, errW_some] <;> rfl) | (simp [*, errW_none, errW_some] <;> rfl), by repeat (first | (with_reducible first | exact HB.out | apply below_alloc | apply pw_below_drewN | apply below_drew1 | refine below_set ?_ GE136.out) | exact HB.out)⟩
          · rw [if_neg c88] at H
            have c88b0 : (a2.toList == ([72, 69, 65, 68] : List UInt8)) = false := beq_eq_false_iff_ne.mpr c88
            have c88b1 : (a2.toList != ([72, 69, 65, 68] : List UInt8)) = true := bne_iff_ne.mpr c88
            by_cases c96 : a2.toList = ([79, 80, 84, 73, 79, 78, 83] : List UInt8)
            · rw [if_pos c96] at H
              have c96b0 : (a2.toList == ([79, 80, 84, 73, 79, 78, 83] : List UInt8)) = true := beq_iff_eq.mpr c96
              have c96b1 : (a2.toList != ([79, 80, 84, 73, 79, 78, 83] : List UInt8)) = false := bne_eq_false_iff_eq.mpr c96
              clear c96
              by_cases c97 : x7_1 = true
              · subst c97
                have H1 : (some true) = some r := by rw [if_pos rfl] at H; exact H
                clear H
                have H := H1
                clear H1
                obtain rfl := Option.some.inj H
                have hcz98_0 : wr.cell? ⟨gb136, 0, none⟩ = some (.slice A0_0 l0_0.length c0_0) := (blk_cell BK136.out 0).trans rfl
                have hcz98_1 : wr.cell? ⟨gb136, 1, none⟩ = some (.slice A0_1 l0_1.length c0_1) := (blk_cell BK136.out 1).trans rfl
                have hcz98_2 : wr.cell? ⟨gb136, 2, none⟩ = some (.bool a0_2) := (blk_cell BK136.out 2).trans rfl
                have hcz98_3 : wr.cell? ⟨gb136, 3, none⟩ = some (.string a0_3) := (blk_cell BK136.out 3).trans rfl
                have hfz98_0 := blk_frozen BK136.out 0
                have hfz98_1 := blk_frozen BK136.out 1
                have hfz98_2 := blk_frozen BK136.out 2
                have hfz98_3 := blk_frozen BK136.out 3
                go_wp2
                go_ret
                exact ⟨by first | rfl | (simp [errW_none, errW_some] <;> rfl) | (simp [*, errW_none, errW_some] <;> rfl), by repeat (first | (with_reducible first | exact HB.out | apply below_alloc | apply pw_below_drewN | apply below_drew1 | refine below_set ?_ GE136.out) | exact HB.out)⟩
              · replace c97 := Bool.eq_false_iff.mpr c97
                subst c97
                have H1 : (some x8_1) = some r := by rw [if_neg (show ¬ (false = true) by decide)] at H; exact H
                clear H
                have H := H1
                clear H1
                obtain rfl := Option.some.inj H
                have hcz99_0 : wr.cell? ⟨gb136, 0, none⟩ = some (.slice A0_0 l0_0.length c0_0) := (blk_cell BK136.out 0).trans rfl
                have hcz99_1 : wr.cell? ⟨gb136, 1, none⟩ = some (.slice A0_1 l0_1.length c0_1) := (blk_cell BK136.out 1).trans rfl
                have hcz99_2 : wr.cell? ⟨gb136, 2, none⟩ = some (.bool a0_2) := (blk_cell BK136.out 2).trans rfl
                have hcz99_3 : wr.cell? ⟨gb136, 3, none⟩ = some (.string a0_3) := (blk_cell BK136.out 3).trans rfl
                have hfz99_0 := blk_frozen BK136.out 0
                have hfz99_1 := blk_frozen BK136.out 1
                have hfz99_2 := blk_frozen BK136.out 2
                have hfz99_3 := blk_frozen BK136.out 3
                go_wp2
                go_ret
                exact ⟨by first | rfl | (simp [errW_none, errW_some] <;> rfl) | (simp [*, errW_none, errW_some] <;> rfl), by repeat (first | (with_reducible first | exact HB.out | apply below_alloc | apply pw_below_drewN | apply below_drew1 | refine below_set ?_ GE136.out) | exact HB.out)⟩
            · rw [if_neg c96] at H
              have c96b0 : (a2.toList == ([79, 80, 84, 73, 79, 78, 83] : List UInt8)) = false := beq_eq_false_iff_ne.mpr c96
              have c96b1 : (a2.toList != ([79, 80, 84, 73, 79, 78, 83] : List UInt8)) = true := bne_iff_ne.mpr c96
              obtain rfl := Option.some.inj H
              have hcz100_0 : wr.cell? ⟨gb136, 0, none⟩ = some (.slice A0_0 l0_0.length c0_0) := (blk_cell BK136.out 0).trans rfl
              have hcz100_1 : wr.cell? ⟨gb136, 1, none⟩ = some (.slice A0_1 l0_1.length c0_1) := (blk_cell BK136.out 1).trans rfl
              have hcz100_2 : wr.cell? ⟨gb136, 2, none⟩ = some (.bool a0_2) := (blk_cell BK136.out 2).trans rfl
              have hcz100_3 : wr.cell? ⟨gb136, 3, none⟩ = some (.string a0_3) := (blk_cell BK136.out 3).trans rfl
              have hfz100_0 := blk_frozen BK136.out 0
              have hfz100_1 := blk_frozen BK136.out 1
              have hfz100_2 := blk_frozen BK136.out 2
              have hfz100_3 := blk_frozen BK136.out 3
              go_wp2
              go_ret
              exact ⟨by first | rfl | (simp [errW_none, errW_some] <;> rfl) | (simp [*, errW_none, errW_some] <;> rfl), by repeat (first | (with_reducible first | exact HB.out | apply below_alloc | apply pw_below_drewN | apply below_drew1 | refine below_set ?_ GE136.out) | exact HB.out)⟩

end Go.Proofs.YtjapmlfjlojbeaaDoor.PA
