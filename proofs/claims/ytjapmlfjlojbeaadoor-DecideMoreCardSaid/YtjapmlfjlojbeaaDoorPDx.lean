/- Contracts of doorkeeperlaw23_DecideMore, as the kit's print.py wrote them over the translation. Conditions: those that each contract names. -/
import Derived.Test.YtjapmlfjlojbeaaDoorPA0
import Derived.Test.YtjapmlfjlojbeaaDoorPCc
import Derived.Test.YtjapmlfjlojbeaaDoorHD
import Derived.Test.YtjapmlfjlojbeaaDoorPBh
import Derived.Test.YtjapmlfjlojbeaaDoorPBi
namespace Go.Proofs.YtjapmlfjlojbeaaDoor.PA
open Go.RowKit Go.Proofs.YtjapmlfjlojbeaaDoorW.PrintWords Go.Proofs.YtjapmlfjlojbeaaDoorW.PrintLast Go.Proofs.YtjapmlfjlojbeaaDoorW.PrintMore
attribute [local go_sem] max2_int min2_int max_two min_two max_three min_three max_four min_four   -- for this text's walks alone
set_option linter.unusedVariables false
set_option linter.unusedVariables false
set_option linter.unusedSimpArgs false

/-! ### doorkeeperlaw23_DecideMore: function 11 -/
def doorkeeperlaw23_DecideMore.j0 : Nat → ByteArray → ByteArray → Bool → List ByteArray → List (S39) → Bool → ByteArray → ByteArray → Bool → Bool → Option (Bool)
  | 0, _, _, _, _, _, _, _, _, _, _ => none
  | k + 1, x2, x3, x29, x147000, x147001, x147002, x147003, x148000, x148001, x148002 => if x29 = true then ((doorkeeperlaw23_awake.f).bind fun t149 => (some t149)) else ((some (([] : List (S39)) : List (S39))).bind fun y151 => (if y151.length + x147001.length < 5864062014805 then ((some (y151 ++ x147001 : List (S39))).bind fun y154 => ((some (([(⟨x148000, x148001, x148002⟩ : S39)] : List (S39)) : List (S39))).bind fun y157 => (if y154.length + y157.length < 5864062014805 then ((some (y154 ++ y157 : List (S39))).bind fun y160 => ((decide_By.f k x147000 x147001 x147002 x147003 x2 x3).bind fun bt163 => ((decide_By.f k x147000 y160 x147002 x147003 x2 x3).bind fun bt169 => (if (bt169.2.1.length : Int) < (bt163.2.1.length : Int) then (some false) else ((doorkeeperref23_By.f k x147000 y160 x147002 x147003 x2 x3).bind fun bt175 => ((doorkeeperref23_Same.f k bt169.1 bt169.2.1 bt169.2.2 bt175.1 bt175.2.1 bt175.2.2).bind fun t180 => (if t180 = true then (if bt163.1 = 1 then (some (bt169.1 == 1)) else (some true)) else (some false)))))))) else (none)))) else (none)))
def doorkeeperlaw23_DecideMore.f (k : Nat) (l0_0 : List ByteArray) (l0_1 : List (S39)) (a0_2 : Bool) (a0_3 : ByteArray) (a1_0 : ByteArray) (a1_1 : Bool) (a1_2 : Bool) (a2 : ByteArray) (a3 : ByteArray) : Option (Bool) := (doorkeeperlaw23_awake.f).bind fun t148 => (if t148 = true then (if (l0_1.length : Int) > 20 then (doorkeeperlaw23_DecideMore.j0 k a2 a3 true l0_0 l0_1 a0_2 a0_3 a1_0 a1_1 a1_2) else (if (a2.size : Int) > 60 then (doorkeeperlaw23_DecideMore.j0 k a2 a3 true l0_0 l0_1 a0_2 a0_3 a1_0 a1_1 a1_2) else (doorkeeperlaw23_DecideMore.j0 k a2 a3 (decide ((a3.size : Int) > 60)) l0_0 l0_1 a0_2 a0_3 a1_0 a1_1 a1_2))) else (doorkeeperlaw23_DecideMore.j0 k a2 a3 true l0_0 l0_1 a0_2 a0_3 a1_0 a1_1 a1_2))
theorem doorkeeperlaw23_DecideMore.mono_l : ∀ k, (∀ y0 y1 y2 y3 y4 y5 y6 y7 y8 y9, LeO (doorkeeperlaw23_DecideMore.j0 k y0 y1 y2 y3 y4 y5 y6 y7 y8 y9) (doorkeeperlaw23_DecideMore.j0 (k + 1) y0 y1 y2 y3 y4 y5 y6 y7 y8 y9))
  | 0 => fun _ _ _ _ _ _ _ _ _ _ r h => by simp [doorkeeperlaw23_DecideMore.j0] at h
  | k + 1 => by
    have ih0 := doorkeeperlaw23_DecideMore.mono_l k
    · intro y0 y1 y2 y3 y4 y5 y6 y7 y8 y9
      unfold doorkeeperlaw23_DecideMore.j0
      repeat' first
      | (with_reducible exact ih0 _ _ _ _ _ _ _ _ _ _)
      | (with_reducible exact decide_By.mono _ _ _ _ _ _ _)
      | (with_reducible exact doorkeeperref23_By.mono _ _ _ _ _ _ _)
      | (with_reducible exact doorkeeperref23_Same.mono _ _ _ _ _ _ _)
      | (with_reducible exact LeO.refl _)
      | (with_reducible exact LeO.none _)
      | (with_reducible refine LeO.ite ?_ ?_)
      | (with_reducible refine LeO.bind ?_ (fun _ => ?_))
      | exact ih0 _ _ _ _ _ _ _ _ _ _
      | exact decide_By.mono _ _ _ _ _ _ _
      | exact doorkeeperref23_By.mono _ _ _ _ _ _ _
      | exact doorkeeperref23_Same.mono _ _ _ _ _ _ _
      | exact LeO.none _
      | refine LeO.ite ?_ ?_
      | refine LeO.bind ?_ (fun _ => ?_)
theorem doorkeeperlaw23_DecideMore.mono : ∀ a0 a1 a2 a3 a4 a5 a6 a7 a8 k, LeO (doorkeeperlaw23_DecideMore.f k a0 a1 a2 a3 a4 a5 a6 a7 a8) (doorkeeperlaw23_DecideMore.f (k + 1) a0 a1 a2 a3 a4 a5 a6 a7 a8) := by
  intro a0 a1 a2 a3 a4 a5 a6 a7 a8 k
  have ih0 := doorkeeperlaw23_DecideMore.mono_l k
  unfold doorkeeperlaw23_DecideMore.f
  repeat' first
      | (with_reducible exact ih0 _ _ _ _ _ _ _ _ _ _)
      | (with_reducible exact decide_By.mono _ _ _ _ _ _ _)
      | (with_reducible exact doorkeeperref23_By.mono _ _ _ _ _ _ _)
      | (with_reducible exact doorkeeperref23_Same.mono _ _ _ _ _ _ _)
      | (with_reducible exact LeO.refl _)
      | (with_reducible exact LeO.none _)
      | (with_reducible refine LeO.ite ?_ ?_)
      | (with_reducible refine LeO.bind ?_ (fun _ => ?_))
      | exact ih0 _ _ _ _ _ _ _ _ _ _
      | exact decide_By.mono _ _ _ _ _ _ _
      | exact doorkeeperref23_By.mono _ _ _ _ _ _ _
      | exact doorkeeperref23_Same.mono _ _ _ _ _ _ _
      | exact LeO.none _
      | refine LeO.ite ?_ ?_
      | refine LeO.bind ?_ (fun _ => ?_)
def doorkeeperlaw23_DecideMore.T4 : Bool × List (List Nat × List Nat) := (true, [([], []), ([], []), ([1], [1]), ([0, 2], [0, 2]), ([], []), ([4], [4]), ([3, 5, 3], [3, 5]), ([0, 1, 2, 3, 4, 5, 6], []), ([7, 6, 6, 0, 1, 2, 3, 4, 5, 6], [6, 7])])
def doorkeeperlaw23_DecideMore.B4 : List Nat := [0, 0, 2, 7, 0, 16, 63, 127, 255]
theorem doorkeeperlaw23_DecideMore.tab4 : rtab .any (opsOf Tryd.f11 4) = doorkeeperlaw23_DecideMore.T4 := by kernel_rfl
theorem doorkeeperlaw23_DecideMore.bits4 : waitsOk doorkeeperlaw23_DecideMore.T4.2 doorkeeperlaw23_DecideMore.B4 = true := by kernel_rfl
def doorkeeperlaw23_DecideMore.T7 : Bool × List (List Nat × List Nat) := (true, [([], []), ([0], [0]), ([1], [1]), ([], []), ([3], [3]), ([4], [4]), ([2, 5], [2, 5]), ([6], [6]), ([7], [7]), ([7], [7]), ([7], [7]), ([7], [7]), ([9, 10, 11, 7, 7], [7, 9, 10, 11]), ([8, 12, 12, 7], [7, 8, 12]), ([13, 7], [7, 13]), ([7, 14], [7, 14])])
def doorkeeperlaw23_DecideMore.B7 : List Nat := [0, 1, 3, 0, 8, 24, 63, 127, 255, 255, 255, 255, 3839, 8191, 16383, 32767]
theorem doorkeeperlaw23_DecideMore.tab7 : rtab .any (opsOf Tryd.f11 7) = doorkeeperlaw23_DecideMore.T7 := by kernel_rfl
theorem doorkeeperlaw23_DecideMore.bits7 : waitsOk doorkeeperlaw23_DecideMore.T7.2 doorkeeperlaw23_DecideMore.B7 = true := by kernel_rfl
set_option maxHeartbeats 8000000 in
set_option maxRecDepth 100000 in
theorem doorkeeperlaw23_DecideMore.calls (k : Nat) (A0_0 : Option Addr) (c0_0 : Nat) (l0_0 : List ByteArray) (A0_1 : Option Addr) (c0_1 : Nat) (l0_1 : List (S39)) (a0_2 : Bool) (a0_3 : ByteArray) (a1_0 : ByteArray) (a1_1 : Bool) (a1_2 : Bool) (a2 : ByteArray) (a3 : ByteArray) (r : Bool) (w : World) (hr0_0 : Kd.C Kd.string w A0_0 l0_0.length l0_0) (hc0_0 : l0_0.length ≤ c0_0) (hr0_1 : Kd.C k39 w A0_1 l0_1.length l0_1) (hc0_1 : l0_1.length ≤ c0_1) (h : doorkeeperlaw23_DecideMore.f k l0_0 l0_1 a0_2 a0_3 a1_0 a1_1 a1_2 a2 a3 = some r) (hL : LaidD w) (hrt : r = true) :
    Calls Tryd.prog 11 #[.agg #[.slice A0_0 l0_0.length c0_0, .slice A0_1 l0_1.length c0_1, .bool a0_2, .string a0_3], .agg #[.string a1_0, .bool a1_1, .bool a1_2], .string a2, .string a3] w fun e w' => e = .returned (.bool r) ∧ Below w.heap.size w w' := by
  have HL := Aside0.mk hL
  have HRT := Aside0.mk hrt
  clear hrt
  clear hL
  have hu30 := Tryd.underlying30
  have hu39 := Tryd.underlying39
  have hu44 := Tryd.underlying44
  have HR0_0 := Aside0.mk hr0_0
  have HC0_0 := Aside0.mk hc0_0
  clear hr0_0 hc0_0
  have HR0_1 := Aside0.mk hr0_1
  have HC0_1 := Aside0.mk hc0_1
  clear hr0_1 hc0_1
  have HB := Aside0.mk (Below.refl w.heap.size w)
  have H : ((doorkeeperlaw23_awake.f).bind fun t148 => (if t148 = true then (if (l0_1.length : Int) > 20 then (doorkeeperlaw23_DecideMore.j0 k a2 a3 true l0_0 l0_1 a0_2 a0_3 a1_0 a1_1 a1_2) else (if (a2.size : Int) > 60 then (doorkeeperlaw23_DecideMore.j0 k a2 a3 true l0_0 l0_1 a0_2 a0_3 a1_0 a1_1 a1_2) else (doorkeeperlaw23_DecideMore.j0 k a2 a3 (decide ((a3.size : Int) > 60)) l0_0 l0_1 a0_2 a0_3 a1_0 a1_1 a1_2))) else (doorkeeperlaw23_DecideMore.j0 k a2 a3 true l0_0 l0_1 a0_2 a0_3 a1_0 a1_1 a1_2))) = some r := h
  clear h
  have HC5 := Aside0.mk H
  clear H
  go_enter Tryd.func11, Tryd.ntmps11
  go_upto_region 1 with (first | ((with_reducible refine gate_dst (N := 4) rfl ?_); (try (refine gate_guard (by rfl) ?_; dsimp only)); refine box_event ?hg (N := 4) ?hd (cs := #[.slice A0_0 l0_0.length c0_0, .slice A0_1 l0_1.length c0_1, .bool a0_2, .string a0_3]) (t := 30) ?hr ?_; (case hd => rfl); (case hg => rfl); (case hr => first | (go_simp; done) | (go_simp; rfl)); intro gb146 hg w6 hbox hb; have n0_ := Aside0.mk (below_step (by repeat (first | (with_reducible first | exact HB.out | apply below_alloc | apply pw_below_drewN | apply below_drew1) | exact HB.out)) hb); have n1_ := Aside0.mk (hbox); have n2_ := Aside0.mk ((by rw [hg]; exact (below_size (by repeat (first | (with_reducible first | exact HB.out | apply below_alloc | apply pw_below_drewN | apply below_drew1) | exact HB.out))) : w.heap.size ≤ gb146)); have n3_ := Aside0.mk ((by rw [hg]; exact (below_size (by repeat (first | (with_reducible first | exact HB.out | apply below_alloc | apply pw_below_drewN | apply below_drew1) | exact HB.out))) : w.heap.size ≤ gb146)); clear HB; have HB := n0_; have BK146 := n1_; have GW146 := n2_; have GE146 := n3_; clear n0_ n1_ n2_ n3_; clear hb hbox hg) | ((with_reducible refine gate_dst (N := 5) rfl ?_); (try (refine gate_guard (by rfl) ?_; dsimp only)); refine box_event ?hg (N := 5) ?hd (cs := #[.string a1_0, .bool a1_1, .bool a1_2]) (t := 39) ?hr ?_; (case hd => rfl); (case hg => rfl); (case hr => first | (go_simp; done) | (go_simp; rfl)); intro gb147 hg w7 hbox hb; have n0_ := Aside0.mk (blk_below (g := gb146) (o := .cells #[.slice A0_0 l0_0.length c0_0, .slice A0_1 l0_1.length c0_1, .bool a0_2, .string a0_3] 30 (0, 0)) (by (with_reducible repeat (first | refine blk_drewN ?_ _ | refine blk_drew ?_ | refine blk_alloc ?_ _)); exact BK146.out) hb); have n1_ := Aside0.mk (below_step (by repeat (first | (with_reducible first | exact HB.out | apply below_alloc | apply pw_below_drewN | apply below_drew1 | refine below_set ?_ GE146.out) | exact HB.out)) hb); have n2_ := Aside0.mk (hbox); have n3_ := Aside0.mk ((by rw [hg]; exact (below_size (by repeat (first | (with_reducible first | exact HB.out | apply below_alloc | apply pw_below_drewN | apply below_drew1 | refine below_set ?_ GE146.out) | exact HB.out))) : w.heap.size ≤ gb147)); have n4_ := Aside0.mk ((by rw [hg]; exact (below_size (by repeat (first | (with_reducible first | exact HB.out | apply below_alloc | apply pw_below_drewN | apply below_drew1 | refine below_set ?_ GE146.out) | exact HB.out))) : w.heap.size ≤ gb147)); have n5_ := Aside0.mk ((by rw [hg]; exact Nat.ne_of_lt (blk_lt (g := gb146) (o := .cells #[.slice A0_0 l0_0.length c0_0, .slice A0_1 l0_1.length c0_1, .bool a0_2, .string a0_3] 30 (0, 0)) (by (with_reducible repeat (first | refine blk_drewN ?_ _ | refine blk_drew ?_ | refine blk_alloc ?_ _)); exact BK146.out)) : gb146 ≠ gb147)); have n6_ := Aside0.mk ((by rw [hg]; exact Nat.ne_of_gt (blk_lt (g := gb146) (o := .cells #[.slice A0_0 l0_0.length c0_0, .slice A0_1 l0_1.length c0_1, .bool a0_2, .string a0_3] 30 (0, 0)) (by (with_reducible repeat (first | refine blk_drewN ?_ _ | refine blk_drew ?_ | refine blk_alloc ?_ _)); exact BK146.out)) : gb147 ≠ gb146)); clear BK146; clear HB; have BK146 := n0_; have HB := n1_; have BK147 := n2_; have GW147 := n3_; have GE147 := n4_; have NB146_147 := n5_; have NB147_146 := n6_; clear n0_ n1_ n2_ n3_ n4_ n5_ n6_; clear hb hbox hg))
  (try simp only [Act.put, List.setIfInBounds_toArray, List.set_cons_zero, List.set_cons_succ])
  go_cut [29] (fun v29 wc => ∃ (kq : Nat) (x29_4 : Bool), v29 = .bool x29_4 ∧ Aside0 (doorkeeperlaw23_DecideMore.j0 kq a2 a3 x29_4 l0_0 l0_1 a0_2 a0_3 a1_0 a1_1 a1_2 = some r) ∧ Aside0 (kq ≤ k) ∧ Aside0 (wc.heap[gb146]? = some (.cells #[(.slice A0_0 l0_0.length c0_0), (.slice A0_1 l0_1.length c0_1), .bool a0_2, .string a0_3] 30 (0, 0))) ∧ Aside0 (wc.heap[gb147]? = some (.cells #[.string a1_0, .bool a1_1, .bool a1_2] 39 (0, 0))) ∧ Aside0 (Below w.heap.size w wc))
  case first =>
    have H := HC5.out
    clear HC5
    replace H := Option.bind_eq_some_iff.mp H
    obtain ⟨t148, A80, H⟩ := H
    replace H : (if t148 = true then (if (l0_1.length : Int) > 20 then (doorkeeperlaw23_DecideMore.j0 k a2 a3 true l0_0 l0_1 a0_2 a0_3 a1_0 a1_1 a1_2) else (if (a2.size : Int) > 60 then (doorkeeperlaw23_DecideMore.j0 k a2 a3 true l0_0 l0_1 a0_2 a0_3 a1_0 a1_1 a1_2) else (doorkeeperlaw23_DecideMore.j0 k a2 a3 (decide ((a3.size : Int) > 60)) l0_0 l0_1 a0_2 a0_3 a1_0 a1_1 a1_2))) else (doorkeeperlaw23_DecideMore.j0 k a2 a3 true l0_0 l0_1 a0_2 a0_3 a1_0 a1_1 a1_2)) = some r := H
    have A8 := Aside0.mk A80
    clear A80
    by_cases c9 : t148 = true
    · subst c9
      have H1 : (if (l0_1.length : Int) > 20 then (doorkeeperlaw23_DecideMore.j0 k a2 a3 true l0_0 l0_1 a0_2 a0_3 a1_0 a1_1 a1_2) else (if (a2.size : Int) > 60 then (doorkeeperlaw23_DecideMore.j0 k a2 a3 true l0_0 l0_1 a0_2 a0_3 a1_0 a1_1 a1_2) else (doorkeeperlaw23_DecideMore.j0 k a2 a3 (decide ((a3.size : Int) > 60)) l0_0 l0_1 a0_2 a0_3 a1_0 a1_1 a1_2))) = some r := by rw [if_pos rfl] at H; exact H
      clear H
      have H := H1
      clear H1
      by_cases c10 : (l0_1.length : Int) > 20
      · rw [if_pos c10] at H
        have c10b0 : decide (20 < (l0_1.length : Int)) = true := decide_eq_true c10
        have c10b1 : decide (20 < l0_1.length) = true := decide_eq_true (by omega)
        clear c10
        (first | rw [c10b0] | (simp only [i64_w, i32_w]; rw [c10b0]) | skip)
        have H' := Aside0.mk H
        clear H
        go_wp2_with (first | ((with_reducible refine gate_callee (f := 26) rfl ?_); refine goesL_ (some 12) rfl rfl Tryd.func26 (by kernel_rfl) rfl #[] rfl (by (try simp only [List.map_toArray, List.map_cons, List.map_nil]); first | done | rfl | (simp only [List.length_drop, List.length_take]; rfl)) ?_; (with_reducible refine (doorkeeperlaw23_awake.calls  true _ A8.out ?sideL).mono ?_); (case sideL => first | exact HL.out.below (by repeat (first | (with_reducible first | exact HB.out | apply below_alloc | apply pw_below_drewN | apply below_drew1 | refine below_set ?_ GE150.out | refine below_set ?_ GE168.out | refine below_set ?_ GE146.out) | exact HB.out)) | exact (HL.out.below (by repeat (first | (with_reducible first | exact HB.out | apply below_alloc | apply pw_below_drewN | apply below_drew1 | refine below_set ?_ GE150.out | refine below_set ?_ GE168.out | refine below_set ?_ GE146.out) | exact HB.out))).1 | exact (HL.out.below (by repeat (first | (with_reducible first | exact HB.out | apply below_alloc | apply pw_below_drewN | apply below_drew1 | refine below_set ?_ GE150.out | refine below_set ?_ GE168.out | refine below_set ?_ GE146.out) | exact HB.out))).2); rintro e w11 ⟨rfl, hb⟩; refine ⟨_, rfl, ?_⟩; have n0_ := Aside0.mk (blk_below (g := gb146) (o := .cells #[.slice A0_0 l0_0.length c0_0, .slice A0_1 l0_1.length c0_1, .bool a0_2, .string a0_3] 30 (0, 0)) (by (with_reducible repeat (first | refine blk_drewN ?_ _ | refine blk_drew ?_ | refine blk_alloc ?_ _)); exact BK146.out) hb); have n1_ := Aside0.mk (blk_below (g := gb147) (o := .cells #[.string a1_0, .bool a1_1, .bool a1_2] 39 (0, 0)) (by (with_reducible repeat (first | refine blk_drewN ?_ _ | refine blk_drew ?_ | refine blk_alloc ?_ _)); exact BK147.out) hb); have n2_ := Aside0.mk (below_step (by repeat (first | (with_reducible first | exact HB.out | apply below_alloc | apply pw_below_drewN | apply below_drew1 | refine below_set ?_ GE146.out | refine below_set ?_ GE147.out) | exact HB.out)) hb); clear BK146; clear BK147; clear HB; have BK146 := n0_; have BK147 := n1_; have HB := n2_; clear n0_ n1_ n2_; (try clear hb); (try clear hb2); (try clear hk); (try clear hi); have hnb12 := NB146_147.out; have hnc12 := NB147_146.out; have hcz13_0 : w11.cell? ⟨gb146, 0, none⟩ = some (.slice A0_0 l0_0.length c0_0) := (blk_cell BK146.out 0).trans rfl; have hcz13_1 : w11.cell? ⟨gb146, 1, none⟩ = some (.slice A0_1 l0_1.length c0_1) := (blk_cell BK146.out 1).trans rfl; have hcz13_2 : w11.cell? ⟨gb146, 2, none⟩ = some (.bool a0_2) := (blk_cell BK146.out 2).trans rfl; have hcz13_3 : w11.cell? ⟨gb146, 3, none⟩ = some (.string a0_3) := (blk_cell BK146.out 3).trans rfl; have hfz13_0 := blk_frozen BK146.out 0; have hfz13_1 := blk_frozen BK146.out 1; have hfz13_2 := blk_frozen BK146.out 2; have hfz13_3 := blk_frozen BK146.out 3))
        go_meet
        case rel => exact ⟨_, (true), (by first | rfl | (simp; done) | (simp [*]; done)), H', ⟨by first | omega | exact Nat.le_refl _⟩, ⟨by (with_reducible repeat (first | refine blk_drewN ?_ _ | refine blk_drew ?_ | refine blk_alloc ?_ _)); exact BK146.out⟩, ⟨by (with_reducible repeat (first | refine blk_drewN ?_ _ | refine blk_drew ?_ | refine blk_alloc ?_ _)); exact BK147.out⟩, ⟨by repeat (first | (with_reducible first | exact HB.out | apply below_alloc | apply pw_below_drewN | apply below_drew1 | refine below_set ?_ GE146.out | refine below_set ?_ GE147.out) | exact HB.out)⟩⟩
      · rw [if_neg c10] at H
        have c10b0 : decide (20 < (l0_1.length : Int)) = false := decide_eq_false c10
        have c10b1 : decide (20 < l0_1.length) = false := decide_eq_false (by omega)
        clear c10
        (first | rw [c10b0] | (simp only [i64_w, i32_w]; rw [c10b0]) | skip)
        by_cases c14 : (a2.size : Int) > 60
        · rw [if_pos c14] at H
          have c14b0 : decide (60 < (a2.size : Int)) = true := decide_eq_true c14
          have c14b1 : decide (60 < a2.size) = true := decide_eq_true (by omega)
          clear c14
          have H' := Aside0.mk H
          clear H
          go_wp2_with (first | ((with_reducible refine gate_callee (f := 26) rfl ?_); refine goesL_ (some 12) rfl rfl Tryd.func26 (by kernel_rfl) rfl #[] rfl (by (try simp only [List.map_toArray, List.map_cons, List.map_nil]); first | done | rfl | (simp only [List.length_drop, List.length_take]; rfl)) ?_; (with_reducible refine (doorkeeperlaw23_awake.calls  true _ A8.out ?sideL).mono ?_); (case sideL => first | exact HL.out.below (by repeat (first | (with_reducible first | exact HB.out | apply below_alloc | apply pw_below_drewN | apply below_drew1 | refine below_set ?_ GE150.out | refine below_set ?_ GE168.out | refine below_set ?_ GE146.out) | exact HB.out)) | exact (HL.out.below (by repeat (first | (with_reducible first | exact HB.out | apply below_alloc | apply pw_below_drewN | apply below_drew1 | refine below_set ?_ GE150.out | refine below_set ?_ GE168.out | refine below_set ?_ GE146.out) | exact HB.out))).1 | exact (HL.out.below (by repeat (first | (with_reducible first | exact HB.out | apply below_alloc | apply pw_below_drewN | apply below_drew1 | refine below_set ?_ GE150.out | refine below_set ?_ GE168.out | refine below_set ?_ GE146.out) | exact HB.out))).2); rintro e w15 ⟨rfl, hb⟩; refine ⟨_, rfl, ?_⟩; have n0_ := Aside0.mk (blk_below (g := gb146) (o := .cells #[.slice A0_0 l0_0.length c0_0, .slice A0_1 l0_1.length c0_1, .bool a0_2, .string a0_3] 30 (0, 0)) (by (with_reducible repeat (first | refine blk_drewN ?_ _ | refine blk_drew ?_ | refine blk_alloc ?_ _)); exact BK146.out) hb); have n1_ := Aside0.mk (blk_below (g := gb147) (o := .cells #[.string a1_0, .bool a1_1, .bool a1_2] 39 (0, 0)) (by (with_reducible repeat (first | refine blk_drewN ?_ _ | refine blk_drew ?_ | refine blk_alloc ?_ _)); exact BK147.out) hb); have n2_ := Aside0.mk (below_step (by repeat (first | (with_reducible first | exact HB.out | apply below_alloc | apply pw_below_drewN | apply below_drew1 | refine below_set ?_ GE146.out | refine below_set ?_ GE147.out) | exact HB.out)) hb); clear BK146; clear BK147; clear HB; have BK146 := n0_; have BK147 := n1_; have HB := n2_; clear n0_ n1_ n2_; (try clear hb); (try clear hb2); (try clear hk); (try clear hi); have hnb16 := NB146_147.out; have hnc16 := NB147_146.out; have hcz17_0 : w15.cell? ⟨gb146, 0, none⟩ = some (.slice A0_0 l0_0.length c0_0) := (blk_cell BK146.out 0).trans rfl; have hcz17_1 : w15.cell? ⟨gb146, 1, none⟩ = some (.slice A0_1 l0_1.length c0_1) := (blk_cell BK146.out 1).trans rfl; have hcz17_2 : w15.cell? ⟨gb146, 2, none⟩ = some (.bool a0_2) := (blk_cell BK146.out 2).trans rfl; have hcz17_3 : w15.cell? ⟨gb146, 3, none⟩ = some (.string a0_3) := (blk_cell BK146.out 3).trans rfl; have hfz17_0 := blk_frozen BK146.out 0; have hfz17_1 := blk_frozen BK146.out 1; have hfz17_2 := blk_frozen BK146.out 2; have hfz17_3 := blk_frozen BK146.out 3))
          go_meet
          case rel => exact ⟨_, (true), (by first | rfl | (simp; done) | (simp [*]; done)), H', ⟨by first | omega | exact Nat.le_refl _⟩, ⟨by (with_reducible repeat (first | refine blk_drewN ?_ _ | refine blk_drew ?_ | refine blk_alloc ?_ _)); exact BK146.out⟩, ⟨by (with_reducible repeat (first | refine blk_drewN ?_ _ | refine blk_drew ?_ | refine blk_alloc ?_ _)); exact BK147.out⟩, ⟨by repeat (first | (with_reducible first | exact HB.out | apply below_alloc | apply pw_below_drewN | apply below_drew1 | refine below_set ?_ GE146.out | refine below_set ?_ GE147.out) | exact HB.out)⟩⟩
        · rw [if_neg c14] at H
          have c14b0 : decide (60 < (a2.size : Int)) = false := decide_eq_false c14
          have c14b1 : decide (60 < a2.size) = false := decide_eq_false (by omega)
          clear c14
          have H' := Aside0.mk H
          clear H
          go_wp2_with (first | ((with_reducible refine gate_callee (f := 26) rfl ?_); refine goesL_ (some 12) rfl rfl Tryd.func26 (by kernel_rfl) rfl #[] rfl (by (try simp only [List.map_toArray, List.map_cons, List.map_nil]); first | done | rfl | (simp only [List.length_drop, List.length_take]; rfl)) ?_; (with_reducible refine (doorkeeperlaw23_awake.calls  true _ A8.out ?sideL).mono ?_); (case sideL => first | exact HL.out.below (by repeat (first | (with_reducible first | exact HB.out | apply below_alloc | apply pw_below_drewN | apply below_drew1 | refine below_set ?_ GE150.out | refine below_set ?_ GE168.out | refine below_set ?_ GE146.out) | exact HB.out)) | exact (HL.out.below (by repeat (first | (with_reducible first | exact HB.out | apply below_alloc | apply pw_below_drewN | apply below_drew1 | refine below_set ?_ GE150.out | refine below_set ?_ GE168.out | refine below_set ?_ GE146.out) | exact HB.out))).1 | exact (HL.out.below (by repeat (first | (with_reducible first | exact HB.out | apply below_alloc | apply pw_below_drewN | apply below_drew1 | refine below_set ?_ GE150.out | refine below_set ?_ GE168.out | refine below_set ?_ GE146.out) | exact HB.out))).2); rintro e w18 ⟨rfl, hb⟩; refine ⟨_, rfl, ?_⟩; have n0_ := Aside0.mk (blk_below (g := gb146) (o := .cells #[.slice A0_0 l0_0.length c0_0, .slice A0_1 l0_1.length c0_1, .bool a0_2, .string a0_3] 30 (0, 0)) (by (with_reducible repeat (first | refine blk_drewN ?_ _ | refine blk_drew ?_ | refine blk_alloc ?_ _)); exact BK146.out) hb); have n1_ := Aside0.mk (blk_below (g := gb147) (o := .cells #[.string a1_0, .bool a1_1, .bool a1_2] 39 (0, 0)) (by (with_reducible repeat (first | refine blk_drewN ?_ _ | refine blk_drew ?_ | refine blk_alloc ?_ _)); exact BK147.out) hb); have n2_ := Aside0.mk (below_step (by repeat (first | (with_reducible first | exact HB.out | apply below_alloc | apply pw_below_drewN | apply below_drew1 | refine below_set ?_ GE146.out | refine below_set ?_ GE147.out) | exact HB.out)) hb); clear BK146; clear BK147; clear HB; have BK146 := n0_; have BK147 := n1_; have HB := n2_; clear n0_ n1_ n2_; (try clear hb); (try clear hb2); (try clear hk); (try clear hi); have hnb19 := NB146_147.out; have hnc19 := NB147_146.out; have hcz20_0 : w18.cell? ⟨gb146, 0, none⟩ = some (.slice A0_0 l0_0.length c0_0) := (blk_cell BK146.out 0).trans rfl; have hcz20_1 : w18.cell? ⟨gb146, 1, none⟩ = some (.slice A0_1 l0_1.length c0_1) := (blk_cell BK146.out 1).trans rfl; have hcz20_2 : w18.cell? ⟨gb146, 2, none⟩ = some (.bool a0_2) := (blk_cell BK146.out 2).trans rfl; have hcz20_3 : w18.cell? ⟨gb146, 3, none⟩ = some (.string a0_3) := (blk_cell BK146.out 3).trans rfl; have hfz20_0 := blk_frozen BK146.out 0; have hfz20_1 := blk_frozen BK146.out 1; have hfz20_2 := blk_frozen BK146.out 2; have hfz20_3 := blk_frozen BK146.out 3))
          go_meet
          case rel => exact ⟨_, (decide ((a3.size : Int) > 60)), (by first | rfl | (simp; done) | (simp [*]; done)), H', ⟨by first | omega | exact Nat.le_refl _⟩, ⟨by (with_reducible repeat (first | refine blk_drewN ?_ _ | refine blk_drew ?_ | refine blk_alloc ?_ _)); exact BK146.out⟩, ⟨by (with_reducible repeat (first | refine blk_drewN ?_ _ | refine blk_drew ?_ | refine blk_alloc ?_ _)); exact BK147.out⟩, ⟨by repeat (first | (with_reducible first | exact HB.out | apply below_alloc | apply pw_below_drewN | apply below_drew1 | refine below_set ?_ GE146.out | refine below_set ?_ GE147.out) | exact HB.out)⟩⟩
    · replace c9 := Bool.eq_false_iff.mpr c9
      subst c9
      have H1 : (doorkeeperlaw23_DecideMore.j0 k a2 a3 true l0_0 l0_1 a0_2 a0_3 a1_0 a1_1 a1_2) = some r := by rw [if_neg (show ¬ (false = true) by decide)] at H; exact H
      clear H
      have H := H1
      clear H1
      have H' := Aside0.mk H
      clear H
      go_wp2_with (first | ((with_reducible refine gate_callee (f := 26) rfl ?_); refine goesL_ (some 12) rfl rfl Tryd.func26 (by kernel_rfl) rfl #[] rfl (by (try simp only [List.map_toArray, List.map_cons, List.map_nil]); first | done | rfl | (simp only [List.length_drop, List.length_take]; rfl)) ?_; (with_reducible refine (doorkeeperlaw23_awake.calls  false _ A8.out ?sideL).mono ?_); (case sideL => first | exact HL.out.below (by repeat (first | (with_reducible first | exact HB.out | apply below_alloc | apply pw_below_drewN | apply below_drew1 | refine below_set ?_ GE150.out | refine below_set ?_ GE168.out | refine below_set ?_ GE146.out) | exact HB.out)) | exact (HL.out.below (by repeat (first | (with_reducible first | exact HB.out | apply below_alloc | apply pw_below_drewN | apply below_drew1 | refine below_set ?_ GE150.out | refine below_set ?_ GE168.out | refine below_set ?_ GE146.out) | exact HB.out))).1 | exact (HL.out.below (by repeat (first | (with_reducible first | exact HB.out | apply below_alloc | apply pw_below_drewN | apply below_drew1 | refine below_set ?_ GE150.out | refine below_set ?_ GE168.out | refine below_set ?_ GE146.out) | exact HB.out))).2); rintro e w21 ⟨rfl, hb⟩; refine ⟨_, rfl, ?_⟩; have n0_ := Aside0.mk (blk_below (g := gb146) (o := .cells #[.slice A0_0 l0_0.length c0_0, .slice A0_1 l0_1.length c0_1, .bool a0_2, .string a0_3] 30 (0, 0)) (by (with_reducible repeat (first | refine blk_drewN ?_ _ | refine blk_drew ?_ | refine blk_alloc ?_ _)); exact BK146.out) hb); have n1_ := Aside0.mk (blk_below (g := gb147) (o := .cells #[.string a1_0, .bool a1_1, .bool a1_2] 39 (0, 0)) (by (with_reducible repeat (first | refine blk_drewN ?_ _ | refine blk_drew ?_ | refine blk_alloc ?_ _)); exact BK147.out) hb); have n2_ := Aside0.mk (below_step (by repeat (first | (with_reducible first | exact HB.out | apply below_alloc | apply pw_below_drewN | apply below_drew1 | refine below_set ?_ GE146.out | refine below_set ?_ GE147.out) | exact HB.out)) hb); clear BK146; clear BK147; clear HB; have BK146 := n0_; have BK147 := n1_; have HB := n2_; clear n0_ n1_ n2_; (try clear hb); (try clear hb2); (try clear hk); (try clear hi)))
      go_meet
      case rel => exact ⟨_, (true), (by first | rfl | (simp; done) | (simp [*]; done)), H', ⟨by first | omega | exact Nat.le_refl _⟩, ⟨by (with_reducible repeat (first | refine blk_drewN ?_ _ | refine blk_drew ?_ | refine blk_alloc ?_ _)); exact BK146.out⟩, ⟨by (with_reducible repeat (first | refine blk_drewN ?_ _ | refine blk_drew ?_ | refine blk_alloc ?_ _)); exact BK147.out⟩, ⟨by repeat (first | (with_reducible first | exact HB.out | apply below_alloc | apply pw_below_drewN | apply below_drew1 | refine below_set ?_ GE146.out | refine below_set ?_ GE147.out) | exact HB.out)⟩⟩
  case rest =>
    clear HC5
    try clear c1
    try clear c2
    try clear p2
    try clear c9
    try clear c10
    try clear c10b0
    try clear c10b1
    try clear c11
    try clear c12
    try clear c14
    try clear c14b0
    try clear c14b1
    try clear c16
    try clear c19
    try clear hcz13_0
    try clear hcz13_1
    try clear hcz13_2
    try clear hcz13_3
    try clear hcz17_0
    try clear hcz17_1
    try clear hcz17_2
    try clear hcz17_3
    try clear hcz20_0
    try clear hcz20_1
    try clear hcz20_2
    try clear hcz20_3
    try clear hfz13_0
    try clear hfz13_1
    try clear hfz13_2
    try clear hfz13_3
    try clear hfz17_0
    try clear hfz17_1
    try clear hfz17_2
    try clear hfz17_3
    try clear hfz20_0
    try clear hfz20_1
    try clear hfz20_2
    try clear hfz20_3
    obtain ⟨kq, x29_4, rfl, HA, HJ4, BK146, BK147, HB⟩ := hcut
    cases kq with
    | zero => exact absurd HA.out (by simp [doorkeeperlaw23_DecideMore.j0])
    | succ kj4 =>
      have H := HA.out
      clear HA
      simp only [doorkeeperlaw23_DecideMore.j0] at H
      by_cases c22 : x29_4 = true
      · subst c22
        have H1 : ((doorkeeperlaw23_awake.f).bind fun t149 => (some t149)) = some r := by rw [if_pos rfl] at H; exact H
        clear H
        have H := H1
        clear H1
        replace H := Option.bind_eq_some_iff.mp H
        obtain ⟨t149, A230, H⟩ := H
        replace H : (some t149) = some r := H
        have A23 := Aside0.mk A230
        clear A230
        obtain rfl := Option.some.inj H
        go_wp2_with (first | ((with_reducible refine gate_callee (f := 26) rfl ?_); refine goesL_ (some 30) rfl rfl Tryd.func26 (by kernel_rfl) rfl #[] rfl (by (try simp only [List.map_toArray, List.map_cons, List.map_nil]); first | done | rfl | (simp only [List.length_drop, List.length_take]; rfl)) ?_; (with_reducible refine (doorkeeperlaw23_awake.calls  t149 _ A23.out ?sideL).mono ?_); (case sideL => first | exact HL.out.below (by repeat (first | (with_reducible first | exact HB.out | apply below_alloc | apply pw_below_drewN | apply below_drew1 | refine below_set ?_ GE150.out | refine below_set ?_ GE168.out | refine below_set ?_ GE146.out) | exact HB.out)) | exact (HL.out.below (by repeat (first | (with_reducible first | exact HB.out | apply below_alloc | apply pw_below_drewN | apply below_drew1 | refine below_set ?_ GE150.out | refine below_set ?_ GE168.out | refine below_set ?_ GE146.out) | exact HB.out))).1 | exact (HL.out.below (by repeat (first | (with_reducible first | exact HB.out | apply below_alloc | apply pw_below_drewN | apply below_drew1 | refine below_set ?_ GE150.out | refine below_set ?_ GE168.out | refine below_set ?_ GE146.out) | exact HB.out))).2); rintro e w24 ⟨rfl, hb⟩; refine ⟨_, rfl, ?_⟩; have n0_ := Aside0.mk (blk_below (g := gb146) (o := .cells #[.slice A0_0 l0_0.length c0_0, .slice A0_1 l0_1.length c0_1, .bool a0_2, .string a0_3] 30 (0, 0)) (by (with_reducible repeat (first | refine blk_drewN ?_ _ | refine blk_drew ?_ | refine blk_alloc ?_ _)); exact BK146.out) hb); have n1_ := Aside0.mk (blk_below (g := gb147) (o := .cells #[.string a1_0, .bool a1_1, .bool a1_2] 39 (0, 0)) (by (with_reducible repeat (first | refine blk_drewN ?_ _ | refine blk_drew ?_ | refine blk_alloc ?_ _)); exact BK147.out) hb); have n2_ := Aside0.mk (below_step (by repeat (first | (with_reducible first | exact HB.out | apply below_alloc | apply pw_below_drewN | apply below_drew1 | refine below_set ?_ GE146.out | refine below_set ?_ GE147.out) | exact HB.out)) hb); clear BK146; clear BK147; clear HB; have BK146 := n0_; have BK147 := n1_; have HB := n2_; clear n0_ n1_ n2_; (try clear hb); (try clear hb2); (try clear hk); (try clear hi)))
        go_ret
        exact ⟨by first | rfl | (simp [errW_none, errW_some] <;> rfl) | (simp [*, errW_none, errW_some] <;> rfl), by repeat (first | (with_reducible first | exact HB.out | apply below_alloc | apply pw_below_drewN | apply below_drew1 | refine below_set ?_ GE146.out | refine below_set ?_ GE147.out) | exact HB.out)⟩
      · replace c22 := Bool.eq_false_iff.mpr c22
        subst c22
        have H1 : ((some (([] : List (S39)) : List (S39))).bind fun y151 => (if y151.length + l0_1.length < 5864062014805 then ((some (y151 ++ l0_1 : List (S39))).bind fun y154 => ((some (([(⟨a1_0, a1_1, a1_2⟩ : S39)] : List (S39)) : List (S39))).bind fun y157 => (if y154.length + y157.length < 5864062014805 then ((some (y154 ++ y157 : List (S39))).bind fun y160 => ((decide_By.f kj4 l0_0 l0_1 a0_2 a0_3 a2 a3).bind fun bt163 => ((decide_By.f kj4 l0_0 y160 a0_2 a0_3 a2 a3).bind fun bt169 => (if (bt169.2.1.length : Int) < (bt163.2.1.length : Int) then (some false) else ((doorkeeperref23_By.f kj4 l0_0 y160 a0_2 a0_3 a2 a3).bind fun bt175 => ((doorkeeperref23_Same.f kj4 bt169.1 bt169.2.1 bt169.2.2 bt175.1 bt175.2.1 bt175.2.2).bind fun t180 => (if t180 = true then (if bt163.1 = 1 then (some (bt169.1 == 1)) else (some true)) else (some false)))))))) else (none)))) else (none))) = some r := by rw [if_neg (show ¬ (false = true) by decide)] at H; exact H
        clear H
        have H := H1
        clear H1
        obtain ⟨y151, hy151⟩ : ∃ y_ : List (S39), y_ = (([] : List (S39))) := ⟨_, rfl⟩
        replace H : (if y151.length + l0_1.length < 5864062014805 then ((some (y151 ++ l0_1 : List (S39))).bind fun y154 => ((some (([(⟨a1_0, a1_1, a1_2⟩ : S39)] : List (S39)) : List (S39))).bind fun y157 => (if y154.length + y157.length < 5864062014805 then ((some (y154 ++ y157 : List (S39))).bind fun y160 => ((decide_By.f kj4 l0_0 l0_1 a0_2 a0_3 a2 a3).bind fun bt163 => ((decide_By.f kj4 l0_0 y160 a0_2 a0_3 a2 a3).bind fun bt169 => (if (bt169.2.1.length : Int) < (bt163.2.1.length : Int) then (some false) else ((doorkeeperref23_By.f kj4 l0_0 y160 a0_2 a0_3 a2 a3).bind fun bt175 => ((doorkeeperref23_Same.f kj4 bt169.1 bt169.2.1 bt169.2.2 bt175.1 bt175.2.1 bt175.2.2).bind fun t180 => (if t180 = true then (if bt163.1 = 1 then (some (bt169.1 == 1)) else (some true)) else (some false)))))))) else (none)))) else (none)) = some r := by first | (rw [hy151]; with_reducible exact H) | (have H2_ := (Option.bind_some _ _).symm.trans H; rw [hy151]; with_reducible exact H2_) | (have H2_ := (Option.bind_some _ _).symm.trans H; with_reducible exact H2_) | with_reducible exact H | (rw [hy151]; exact H) | exact H
        have Ny151 := Aside0.mk hy151
        clear hy151
        by_cases c25 : y151.length + l0_1.length < 5864062014805
        · rw [if_pos c25] at H
          have LMc25 := Aside0.mk c25
          clear c25
          obtain ⟨y154, hy154⟩ : ∃ y_ : List (S39), y_ = (y151 ++ l0_1) := ⟨_, rfl⟩
          replace H : ((some (([(⟨a1_0, a1_1, a1_2⟩ : S39)] : List (S39)) : List (S39))).bind fun y157 => (if y154.length + y157.length < 5864062014805 then ((some (y154 ++ y157 : List (S39))).bind fun y160 => ((decide_By.f kj4 l0_0 l0_1 a0_2 a0_3 a2 a3).bind fun bt163 => ((decide_By.f kj4 l0_0 y160 a0_2 a0_3 a2 a3).bind fun bt169 => (if (bt169.2.1.length : Int) < (bt163.2.1.length : Int) then (some false) else ((doorkeeperref23_By.f kj4 l0_0 y160 a0_2 a0_3 a2 a3).bind fun bt175 => ((doorkeeperref23_Same.f kj4 bt169.1 bt169.2.1 bt169.2.2 bt175.1 bt175.2.1 bt175.2.2).bind fun t180 => (if t180 = true then (if bt163.1 = 1 then (some (bt169.1 == 1)) else (some true)) else (some false)))))))) else (none))) = some r := by first | (rw [hy154]; with_reducible exact H) | (have H2_ := (Option.bind_some _ _).symm.trans H; rw [hy154]; with_reducible exact H2_) | (have H2_ := (Option.bind_some _ _).symm.trans H; with_reducible exact H2_) | with_reducible exact H | (rw [hy154]; exact H) | exact H
          have Ny154 := Aside0.mk hy154
          clear hy154
          obtain ⟨y157, hy157⟩ : ∃ y_ : List (S39), y_ = (([(⟨a1_0, a1_1, a1_2⟩ : S39)] : List (S39))) := ⟨_, rfl⟩
          replace H : (if y154.length + y157.length < 5864062014805 then ((some (y154 ++ y157 : List (S39))).bind fun y160 => ((decide_By.f kj4 l0_0 l0_1 a0_2 a0_3 a2 a3).bind fun bt163 => ((decide_By.f kj4 l0_0 y160 a0_2 a0_3 a2 a3).bind fun bt169 => (if (bt169.2.1.length : Int) < (bt163.2.1.length : Int) then (some false) else ((doorkeeperref23_By.f kj4 l0_0 y160 a0_2 a0_3 a2 a3).bind fun bt175 => ((doorkeeperref23_Same.f kj4 bt169.1 bt169.2.1 bt169.2.2 bt175.1 bt175.2.1 bt175.2.2).bind fun t180 => (if t180 = true then (if bt163.1 = 1 then (some (bt169.1 == 1)) else (some true)) else (some false)))))))) else (none)) = some r := by first | (rw [hy157]; with_reducible exact H) | (have H2_ := (Option.bind_some _ _).symm.trans H; rw [hy157]; with_reducible exact H2_) | (have H2_ := (Option.bind_some _ _).symm.trans H; with_reducible exact H2_) | with_reducible exact H | (rw [hy157]; exact H) | exact H
          have Ny157 := Aside0.mk hy157
          clear hy157
          by_cases c26 : y154.length + y157.length < 5864062014805
          · rw [if_pos c26] at H
            have LMc26 := Aside0.mk c26
            clear c26
            obtain ⟨y160, hy160⟩ : ∃ y_ : List (S39), y_ = (y154 ++ y157) := ⟨_, rfl⟩
            replace H : ((decide_By.f kj4 l0_0 l0_1 a0_2 a0_3 a2 a3).bind fun bt163 => ((decide_By.f kj4 l0_0 y160 a0_2 a0_3 a2 a3).bind fun bt169 => (if (bt169.2.1.length : Int) < (bt163.2.1.length : Int) then (some false) else ((doorkeeperref23_By.f kj4 l0_0 y160 a0_2 a0_3 a2 a3).bind fun bt175 => ((doorkeeperref23_Same.f kj4 bt169.1 bt169.2.1 bt169.2.2 bt175.1 bt175.2.1 bt175.2.2).bind fun t180 => (if t180 = true then (if bt163.1 = 1 then (some (bt169.1 == 1)) else (some true)) else (some false))))))) = some r := by first | (rw [hy160]; with_reducible exact H) | (have H2_ := (Option.bind_some _ _).symm.trans H; rw [hy160]; with_reducible exact H2_) | (have H2_ := (Option.bind_some _ _).symm.trans H; with_reducible exact H2_) | with_reducible exact H | (rw [hy160]; exact H) | exact H
            have Ny160 := Aside0.mk hy160
            clear hy160
            replace H := Option.bind_eq_some_iff.mp H
            obtain ⟨⟨t163, t164, t167⟩, A270, H⟩ := H
            replace H : ((decide_By.f kj4 l0_0 y160 a0_2 a0_3 a2 a3).bind fun bt169 => (if (bt169.2.1.length : Int) < (t164.length : Int) then (some false) else ((doorkeeperref23_By.f kj4 l0_0 y160 a0_2 a0_3 a2 a3).bind fun bt175 => ((doorkeeperref23_Same.f kj4 bt169.1 bt169.2.1 bt169.2.2 bt175.1 bt175.2.1 bt175.2.2).bind fun t180 => (if t180 = true then (if t163 = 1 then (some (bt169.1 == 1)) else (some true)) else (some false)))))) = some r := H
            have A27 := Aside0.mk A270
            clear A270
            replace H := Option.bind_eq_some_iff.mp H
            obtain ⟨⟨t169, t170, t173⟩, A280, H⟩ := H
            replace H : (if (t170.length : Int) < (t164.length : Int) then (some false) else ((doorkeeperref23_By.f kj4 l0_0 y160 a0_2 a0_3 a2 a3).bind fun bt175 => ((doorkeeperref23_Same.f kj4 t169 t170 t173 bt175.1 bt175.2.1 bt175.2.2).bind fun t180 => (if t180 = true then (if t163 = 1 then (some (t169 == 1)) else (some true)) else (some false))))) = some r := H
            have A28 := Aside0.mk A280
            clear A280
            by_cases c29 : (t170.length : Int) < (t164.length : Int)
            · rw [if_pos c29] at H
              have h_ := (Option.some.inj H).trans HRT.out
              cases h_
            · rw [if_neg c29] at H
              have c29b0 : decide ((t170.length : Int) < (t164.length : Int)) = false := decide_eq_false c29
              have c29b1 : decide (t170.length < t164.length) = false := decide_eq_false (fun h => c29 (Int.ofNat_lt.mpr h))
              clear c29
              replace H := Option.bind_eq_some_iff.mp H
              obtain ⟨⟨t175, t176, t179⟩, A670, H⟩ := H
              replace H : ((doorkeeperref23_Same.f kj4 t169 t170 t173 t175 t176 t179).bind fun t180 => (if t180 = true then (if t163 = 1 then (some (t169 == 1)) else (some true)) else (some false))) = some r := H
              have A67 := Aside0.mk A670
              clear A670
              replace H := Option.bind_eq_some_iff.mp H
              obtain ⟨t180, A680, H⟩ := H
              replace H : (if t180 = true then (if t163 = 1 then (some (t169 == 1)) else (some true)) else (some false)) = some r := H
              have A68 := Aside0.mk A680
              clear A680
              by_cases c69 : t180 = true
              · subst c69
                have H1 : (if t163 = 1 then (some (t169 == 1)) else (some true)) = some r := by rw [if_pos rfl] at H; exact H
                clear H
                have H := H1
                clear H1
                by_cases c70 : t163 = 1
                · rw [if_pos c70] at H
                  have c70b0 : (t163 == 1) = true := beq_iff_eq.mpr c70
                  have c70b1 : (t163 != 1) = false := bne_eq_false_iff_eq.mpr c70
                  clear c70
                  obtain rfl := Option.some.inj H
                  have hnb71 := NB146_147.out
                  have hnc71 := NB147_146.out
                  have hcz72_0 : wc.cell? ⟨gb146, 0, none⟩ = some (.slice A0_0 l0_0.length c0_0) := (blk_cell BK146.out 0).trans rfl
                  have hcz72_1 : wc.cell? ⟨gb146, 1, none⟩ = some (.slice A0_1 l0_1.length c0_1) := (blk_cell BK146.out 1).trans rfl
                  have hcz72_2 : wc.cell? ⟨gb146, 2, none⟩ = some (.bool a0_2) := (blk_cell BK146.out 2).trans rfl
                  have hcz72_3 : wc.cell? ⟨gb146, 3, none⟩ = some (.string a0_3) := (blk_cell BK146.out 3).trans rfl
                  have hfz72_0 := blk_frozen BK146.out 0
                  have hfz72_1 := blk_frozen BK146.out 1
                  have hfz72_2 := blk_frozen BK146.out 2
                  have hfz72_3 := blk_frozen BK146.out 3
                  try go_wp2_with (first | ((with_reducible refine gate_dst (N := 9) rfl ?_); (try (refine gate_guard (by rfl) ?_; dsimp only)); refine box_event ?hg (N := 9) ?hd (cs := #[.slice none 0 0, .slice none 0 0, .bool false, .string (⟨#[]⟩ : ByteArray)]) (t := 30) ?hr ?_; (case hd => rfl); (case hg => rfl); (case hr => first | (go_simp; done) | (go_simp; rfl)); intro gb150 hg w73 hbox hb; have n0_ := Aside0.mk (blk_below (g := gb146) (o := .cells #[.slice A0_0 l0_0.length c0_0, .slice A0_1 l0_1.length c0_1, .bool a0_2, .string a0_3] 30 (0, 0)) (by (with_reducible repeat (first | refine blk_drewN ?_ _ | refine blk_drew ?_ | refine blk_alloc ?_ _)); exact BK146.out) hb); have n1_ := Aside0.mk (blk_below (g := gb147) (o := .cells #[.string a1_0, .bool a1_1, .bool a1_2] 39 (0, 0)) (by (with_reducible repeat (first | refine blk_drewN ?_ _ | refine blk_drew ?_ | refine blk_alloc ?_ _)); exact BK147.out) hb); have n2_ := Aside0.mk (below_step (by repeat (first | (with_reducible first | exact HB.out | apply below_alloc | apply pw_below_drewN | apply below_drew1 | refine below_set ?_ GE146.out | refine below_set ?_ GE147.out) | exact HB.out)) hb); have n3_ := Aside0.mk (hbox); have n4_ := Aside0.mk ((by rw [hg]; exact (below_size (by repeat (first | (with_reducible first | exact HB.out | apply below_alloc | apply pw_below_drewN | apply below_drew1 | refine below_set ?_ GE146.out | refine below_set ?_ GE147.out) | exact HB.out))) : w.heap.size ≤ gb150)); have n5_ := Aside0.mk ((by rw [hg]; exact (below_size (by repeat (first | (with_reducible first | exact HB.out | apply below_alloc | apply pw_below_drewN | apply below_drew1 | refine below_set ?_ GE146.out | refine below_set ?_ GE147.out) | exact HB.out))) : w.heap.size ≤ gb150)); have n6_ := Aside0.mk ((by rw [hg]; exact Nat.ne_of_lt (blk_lt (g := gb146) (o := .cells #[.slice A0_0 l0_0.length c0_0, .slice A0_1 l0_1.length c0_1, .bool a0_2, .string a0_3] 30 (0, 0)) (by (with_reducible repeat (first | refine blk_drewN ?_ _ | refine blk_drew ?_ | refine blk_alloc ?_ _)); exact BK146.out)) : gb146 ≠ gb150)); have n7_ := Aside0.mk ((by rw [hg]; exact Nat.ne_of_gt (blk_lt (g := gb146) (o := .cells #[.slice A0_0 l0_0.length c0_0, .slice A0_1 l0_1.length c0_1, .bool a0_2, .string a0_3] 30 (0, 0)) (by (with_reducible repeat (first | refine blk_drewN ?_ _ | refine blk_drew ?_ | refine blk_alloc ?_ _)); exact BK146.out)) : gb150 ≠ gb146)); have n8_ := Aside0.mk ((by rw [hg]; exact Nat.ne_of_lt (blk_lt (g := gb147) (o := .cells #[.string a1_0, .bool a1_1, .bool a1_2] 39 (0, 0)) (by (with_reducible repeat (first | refine blk_drewN ?_ _ | refine blk_drew ?_ | refine blk_alloc ?_ _)); exact BK147.out)) : gb147 ≠ gb150)); have n9_ := Aside0.mk ((by rw [hg]; exact Nat.ne_of_gt (blk_lt (g := gb147) (o := .cells #[.string a1_0, .bool a1_1, .bool a1_2] 39 (0, 0)) (by (with_reducible repeat (first | refine blk_drewN ?_ _ | refine blk_drew ?_ | refine blk_alloc ?_ _)); exact BK147.out)) : gb150 ≠ gb147)); clear BK146; clear BK147; clear HB; have BK146 := n0_; have BK147 := n1_; have HB := n2_; have BK150 := n3_; have GW150 := n4_; have GE150 := n5_; have NB146_150 := n6_; have NB150_146 := n7_; have NB147_150 := n8_; have NB150_147 := n9_; clear n0_ n1_ n2_ n3_ n4_ n5_ n6_ n7_ n8_ n9_; clear hb hbox hg; have hnb74 := NB150_146.out; have hnc74 := NB146_150.out; have hnb75 := NB150_147.out; have hnc75 := NB147_150.out; have hcz76_0 : w73.cell? ⟨gb150, 0, none⟩ = some (.slice none 0 0) := (blk_cell BK150.out 0).trans rfl; have hcz76_1 : w73.cell? ⟨gb150, 1, none⟩ = some (.slice none 0 0) := (blk_cell BK150.out 1).trans rfl; have hcz76_2 : w73.cell? ⟨gb150, 2, none⟩ = some (.bool false) := (blk_cell BK150.out 2).trans rfl; have hcz76_3 : w73.cell? ⟨gb150, 3, none⟩ = some (.string (⟨#[]⟩ : ByteArray)) := (blk_cell BK150.out 3).trans rfl; have hfz76_0 := blk_frozen BK150.out 0; have hfz76_1 := blk_frozen BK150.out 1; have hfz76_2 := blk_frozen BK150.out 2; have hfz76_3 := blk_frozen BK150.out 3))
                  have n0_ : Aside0 (((((w73.setCell ⟨gb150, 0, none⟩ (.slice A0_0 l0_0.length c0_0)).setCell ⟨gb150, 1, none⟩ (.slice A0_1 l0_1.length c0_1)).setCell ⟨gb150, 2, none⟩ (.bool a0_2)).setCell ⟨gb150, 3, none⟩ (.string a0_3)).heap[gb146]? = some (.cells #[.slice A0_0 l0_0.length c0_0, .slice A0_1 l0_1.length c0_1, .bool a0_2, .string a0_3] 30 (0, 0))) := ⟨by (with_reducible repeat (first | refine blk_drewN ?_ _ | refine blk_drew ?_ | refine blk_alloc ?_ _)); refine blk_far ?_ NB146_150.out _; (with_reducible repeat (first | refine blk_drewN ?_ _ | refine blk_drew ?_ | refine blk_alloc ?_ _)); refine blk_far ?_ NB146_150.out _; (with_reducible repeat (first | refine blk_drewN ?_ _ | refine blk_drew ?_ | refine blk_alloc ?_ _)); refine blk_far ?_ NB146_150.out _; (with_reducible repeat (first | refine blk_drewN ?_ _ | refine blk_drew ?_ | refine blk_alloc ?_ _)); refine blk_far ?_ NB146_150.out _; (with_reducible repeat (first | refine blk_drewN ?_ _ | refine blk_drew ?_ | refine blk_alloc ?_ _)); exact BK146.out⟩
                  have n1_ : Aside0 (((((w73.setCell ⟨gb150, 0, none⟩ (.slice A0_0 l0_0.length c0_0)).setCell ⟨gb150, 1, none⟩ (.slice A0_1 l0_1.length c0_1)).setCell ⟨gb150, 2, none⟩ (.bool a0_2)).setCell ⟨gb150, 3, none⟩ (.string a0_3)).heap[gb147]? = some (.cells #[.string a1_0, .bool a1_1, .bool a1_2] 39 (0, 0))) := ⟨by (with_reducible repeat (first | refine blk_drewN ?_ _ | refine blk_drew ?_ | refine blk_alloc ?_ _)); refine blk_far ?_ NB147_150.out _; (with_reducible repeat (first | refine blk_drewN ?_ _ | refine blk_drew ?_ | refine blk_alloc ?_ _)); refine blk_far ?_ NB147_150.out _; (with_reducible repeat (first | refine blk_drewN ?_ _ | refine blk_drew ?_ | refine blk_alloc ?_ _)); refine blk_far ?_ NB147_150.out _; (with_reducible repeat (first | refine blk_drewN ?_ _ | refine blk_drew ?_ | refine blk_alloc ?_ _)); refine blk_far ?_ NB147_150.out _; (with_reducible repeat (first | refine blk_drewN ?_ _ | refine blk_drew ?_ | refine blk_alloc ?_ _)); exact BK147.out⟩
                  have n2_ : Aside0 (((((w73.setCell ⟨gb150, 0, none⟩ (.slice A0_0 l0_0.length c0_0)).setCell ⟨gb150, 1, none⟩ (.slice A0_1 l0_1.length c0_1)).setCell ⟨gb150, 2, none⟩ (.bool a0_2)).setCell ⟨gb150, 3, none⟩ (.string a0_3)).heap[gb150]? = some (.cells #[.slice A0_0 l0_0.length c0_0, .slice A0_1 l0_1.length c0_1, .bool a0_2, .string a0_3] 30 (0, 0))) := ⟨by (with_reducible repeat (first | refine blk_drewN ?_ _ | refine blk_drew ?_ | refine blk_alloc ?_ _)); refine blk_put (cs := #[.slice A0_0 l0_0.length c0_0, .slice A0_1 l0_1.length c0_1, .bool a0_2, .string (⟨#[]⟩ : ByteArray)]) ?_ 3 _ rfl; (with_reducible repeat (first | refine blk_drewN ?_ _ | refine blk_drew ?_ | refine blk_alloc ?_ _)); refine blk_put (cs := #[.slice A0_0 l0_0.length c0_0, .slice A0_1 l0_1.length c0_1, .bool false, .string (⟨#[]⟩ : ByteArray)]) ?_ 2 _ rfl; (with_reducible repeat (first | refine blk_drewN ?_ _ | refine blk_drew ?_ | refine blk_alloc ?_ _)); refine blk_put (cs := #[.slice A0_0 l0_0.length c0_0, .slice none 0 0, .bool false, .string (⟨#[]⟩ : ByteArray)]) ?_ 1 _ rfl; (with_reducible repeat (first | refine blk_drewN ?_ _ | refine blk_drew ?_ | refine blk_alloc ?_ _)); refine blk_put (cs := #[.slice none 0 0, .slice none 0 0, .bool false, .string (⟨#[]⟩ : ByteArray)]) ?_ 0 _ rfl; (with_reducible repeat (first | refine blk_drewN ?_ _ | refine blk_drew ?_ | refine blk_alloc ?_ _)); exact BK150.out⟩
                  have n3_ : Aside0 (Below w.heap.size w ((((w73.setCell ⟨gb150, 0, none⟩ (.slice A0_0 l0_0.length c0_0)).setCell ⟨gb150, 1, none⟩ (.slice A0_1 l0_1.length c0_1)).setCell ⟨gb150, 2, none⟩ (.bool a0_2)).setCell ⟨gb150, 3, none⟩ (.string a0_3))) := ⟨by repeat (first | (with_reducible first | exact HB.out | apply below_alloc | apply pw_below_drewN | apply below_drew1 | refine below_set ?_ GE146.out | refine below_set ?_ GE147.out | refine below_set ?_ GE150.out) | exact HB.out)⟩
                  (try clear BK146)
                  (try clear BK147)
                  (try clear BK150)
                  (try clear HB)
                  generalize ((((w73.setCell ⟨gb150, 0, none⟩ (.slice A0_0 l0_0.length c0_0)).setCell ⟨gb150, 1, none⟩ (.slice A0_1 l0_1.length c0_1)).setCell ⟨gb150, 2, none⟩ (.bool a0_2)).setCell ⟨gb150, 3, none⟩ (.string a0_3)) = w77 at n0_ n1_ n2_ n3_ ⊢
                  have BK146 := n0_
                  have BK147 := n1_
                  have BK150 := n2_
                  have HB := n3_
                  clear n0_ n1_ n2_ n3_
                  have n0_ := Aside0.mk (blk_drew BK146.out)
                  have n1_ := Aside0.mk (blk_drew BK147.out)
                  have n2_ := Aside0.mk (blk_drew BK150.out)
                  have n3_ := Aside0.mk (below_drew1 HB.out)
                  clear BK146
                  clear BK147
                  clear BK150
                  clear HB
                  have BK146 := n0_
                  have BK147 := n1_
                  have BK150 := n2_
                  have HB := n3_
                  clear n0_ n1_ n2_ n3_
                  refine start_ (n := 9) (S := fun w' => w'.cell? ⟨gb146, 0, none⟩ = some (.slice A0_0 l0_0.length c0_0) ∧ w'.cell? ⟨gb146, 1, none⟩ = some (.slice A0_1 l0_1.length c0_1) ∧ w'.cell? ⟨gb146, 2, none⟩ = some (.bool a0_2) ∧ w'.cell? ⟨gb146, 3, none⟩ = some (.string a0_3) ∧ w'.cell? ⟨gb147, 0, none⟩ = some (.string a1_0) ∧ w'.cell? ⟨gb147, 1, none⟩ = some (.bool a1_1) ∧ w'.cell? ⟨gb147, 2, none⟩ = some (.bool a1_2)) (ds := []) #[false, false, false, false, false, false, false, false, false] (by kernel_rfl) rfl rfl ⟨(blk_cell BK146.out 0).trans rfl, (blk_cell BK146.out 1).trans rfl, (blk_cell BK146.out 2).trans rfl, (blk_cell BK146.out 3).trans rfl, (blk_cell BK147.out 0).trans rfl, (blk_cell BK147.out 1).trans rfl, (blk_cell BK147.out 2).trans rfl⟩ (fun hHeld => ?_); refine with_tabW doorkeeperlaw23_DecideMore.tab4 doorkeeperlaw23_DecideMore.bits4 (fun HT_ HW_ => ?_)
                  generalize w77.drew = w78 at BK146 BK147 BK150 HB hHeld ⊢
                  refine pure_ (i := 1) (N := some 33) (v := ?_) (a' := ?_) #[false, true, false, false, false, false, false, false, false] rfl rfl (any_of HT_.out (by kernel_rfl)) (fun _ _ _ h => h) (Or.inl ⟨by rfl, ?_⟩) ?_ ?_
                  rotate_left
                  · intro w'
                    go_simp
                    with_reducible rfl
                  rotate_left
                  · simp only [Act.put, List.setIfInBounds_toArray, List.set_cons_zero, List.set_cons_succ, i64_w, i32_w]
                    rfl
                  refine take_ (i := 2) (N := some 34) (v := ?_) (a' := ?_) #[false, true, true, false, false, false, false, false, false] rfl rfl (take_ofW HT_.out HW_.out (by kernel_rfl)) (fun _ _ _ h => h) (Or.inl ⟨by rfl, ?_⟩) hHeld ?_ ?_
                  rotate_left
                  · rintro w' ⟨s0, s1, s2, s3, s4, s5, s6⟩
                    go_simp
                    with_reducible rfl
                  rotate_left
                  · simp only [Act.put, List.setIfInBounds_toArray, List.set_cons_zero, List.set_cons_succ, i64_w, i32_w]
                    rfl
                  refine take_ (i := 4) (N := some 36) (v := ?_) (a' := ?_) #[false, true, true, false, true, false, false, false, false] rfl rfl (take_ofW HT_.out HW_.out (by kernel_rfl)) (fun _ _ _ h => h) (Or.inl ⟨by rfl, ?_⟩) hHeld ?_ ?_
                  rotate_left
                  · rintro w' ⟨s0, s1, s2, s3, s4, s5, s6⟩
                    go_simp
                    with_reducible rfl
                  rotate_left
                  · simp only [Act.put, List.setIfInBounds_toArray, List.set_cons_zero, List.set_cons_succ, i64_w, i32_w]
                    rfl
                  refine join_ (σ := Value × Value × Value) 3 #[true, true, true, true, true, true, false, false, false] (fun s_ => [(32, s_.1), (35, s_.2.1), (37, s_.2.2)]) (fun s_ w' => (w'.cell? ⟨gb146, 0, none⟩ = some (.slice A0_0 l0_0.length c0_0) ∧ w'.cell? ⟨gb146, 1, none⟩ = some (.slice A0_1 l0_1.length c0_1) ∧ w'.cell? ⟨gb146, 2, none⟩ = some (.bool a0_2) ∧ w'.cell? ⟨gb146, 3, none⟩ = some (.string a0_3) ∧ w'.cell? ⟨gb147, 0, none⟩ = some (.string a1_0) ∧ w'.cell? ⟨gb147, 1, none⟩ = some (.bool a1_1) ∧ w'.cell? ⟨gb147, 2, none⟩ = some (.bool a1_2)) ∧ (Kd.R k39 39 w' w.heap.size (fun k_ => some k_ ≠ (s_.2.2 : Value).ownBlock ∧ k_ ≠ gb147) s_.2.1 y154) ∧ (Kd.R k39 39 w' w.heap.size (fun k_ => some k_ ≠ (s_.2.1 : Value).ownBlock ∧ k_ ≠ gb147) s_.2.2 y157) ∧ (w'.heap[gb146]? = some (.cells #[.slice A0_0 l0_0.length c0_0, .slice A0_1 l0_1.length c0_1, .bool a0_2, .string a0_3] 30 (0, 0))) ∧ (w'.heap[gb147]? = some (.cells #[.string a1_0, .bool a1_1, .bool a1_2] 39 (0, 0))) ∧ (w'.heap[gb150]? = some (.cells #[.slice A0_0 l0_0.length c0_0, .slice A0_1 l0_1.length c0_1, .bool a0_2, .string a0_3] 30 (0, 0))) ∧ (Below w.heap.size w w')) ?_ ?_
                  rotate_left
                  · intro hCont
                    refine two_ (i := 0) (j := 5) (Ni := some 32) (Nj := some 37) #[true, true, true, false, true, false, false, false, false] #[false, true, true, false, true, true, false, false, false] rfl rfl rfl rfl (two_of HT_.out (by kernel_rfl)) (by decide) (by decide) (fun K hK => ?_) (fun K hK => ?_)
                    · skip
                      refine Kd.R_lit_step k39 _ 39 ?hg (N := 32) ?hd (xs := ([] : List (S39))) (inner := []) (ok := fun _ => True) (okp := fun _ => True) ?hr ?hp (fun _ hk => hk) trivial (Below.refl _ _) (Nat.le_refl _) (by simp) ?_; (case hd => rfl); (case hg => rfl); (case hr => first | (go_simp; done) | (go_simp; rfl)); (case hp => exact (Reps.none _ _))
                      intro v152 w79 ho80 hb hg_ hnew_
                      clear hg_ hnew_
                      (first | rw [← Ny151.out] at ho80 | (simp only [Int.reduceToNat] at ho80; rw [← Ny151.out] at ho80))
                      have n0_ := Aside0.mk (Kd.R_lower (Kd.R_newB ho80 (g := gb147) (o := .cells #[.string a1_0, .bool a1_1, .bool a1_2] 39 (0, 0)) (by (with_reducible repeat (first | refine blk_drewN ?_ _ | refine blk_drew ?_ | refine blk_alloc ?_ _)); exact BK147.out)) (below_size (by repeat (first | (with_reducible first | exact HB.out | apply below_alloc | apply pw_below_drewN | apply below_drew1 | refine below_set ?_ GE146.out | refine below_set ?_ GE147.out | refine below_set ?_ GE150.out) | exact HB.out))))
                      have n1_ := Aside0.mk (blk_below (g := gb146) (o := .cells #[.slice A0_0 l0_0.length c0_0, .slice A0_1 l0_1.length c0_1, .bool a0_2, .string a0_3] 30 (0, 0)) (by (with_reducible repeat (first | refine blk_drewN ?_ _ | refine blk_drew ?_ | refine blk_alloc ?_ _)); exact BK146.out) hb)
                      have n2_ := Aside0.mk (blk_below (g := gb147) (o := .cells #[.string a1_0, .bool a1_1, .bool a1_2] 39 (0, 0)) (by (with_reducible repeat (first | refine blk_drewN ?_ _ | refine blk_drew ?_ | refine blk_alloc ?_ _)); exact BK147.out) hb)
                      have n3_ := Aside0.mk (blk_below (g := gb150) (o := .cells #[.slice A0_0 l0_0.length c0_0, .slice A0_1 l0_1.length c0_1, .bool a0_2, .string a0_3] 30 (0, 0)) (by (with_reducible repeat (first | refine blk_drewN ?_ _ | refine blk_drew ?_ | refine blk_alloc ?_ _)); exact BK150.out) hb)
                      have n4_ := Aside0.mk (below_step (by repeat (first | (with_reducible first | exact HB.out | apply below_alloc | apply pw_below_drewN | apply below_drew1 | refine below_set ?_ GE146.out | refine below_set ?_ GE147.out | refine below_set ?_ GE150.out) | exact HB.out)) hb)
                      clear BK146
                      clear BK147
                      clear BK150
                      clear HB
                      have HO153 := n0_
                      have BK146 := n1_
                      have BK147 := n2_
                      have BK150 := n3_
                      have HB := n4_
                      clear n0_ n1_ n2_ n3_ n4_
                      clear hb ho80
                      refine hK.out _ _ ⟨(blk_cell BK146.out 0).trans rfl, (blk_cell BK146.out 1).trans rfl, (blk_cell BK146.out 2).trans rfl, (blk_cell BK146.out 3).trans rfl, (blk_cell BK147.out 0).trans rfl, (blk_cell BK147.out 1).trans rfl, (blk_cell BK147.out 2).trans rfl⟩ (fun hHeld => ?_)
                      clear hK K
                      refine norm_ (a' := ?_) ?_ ?_
                      rotate_left
                      · show Act.put _ (some 32) _ = _
                        simp only [Act.put, List.setIfInBounds_toArray, List.set_cons_zero, List.set_cons_succ, i64_w, i32_w]
                        rfl
                      refine two_ (i := 3) (j := 5) (Ni := some 35) (Nj := some 37) #[true, true, true, true, true, false, false, false, false] #[true, true, true, false, true, true, false, false, false] rfl rfl rfl rfl (two_of HT_.out (by kernel_rfl)) (by decide) (by decide) (fun K hK => ?_) (fun K hK => ?_)
                      · skip
                        refine Kd.R_append_rows_step k39 (w0 := w) w.heap.size (by rfl) (.tmp 32) (.tmp 34) 28 39 (.agg #[(.string ⟨#[]⟩), (.bool false), (.bool false)]) 24 rfl Tryd.underlying28 info39 rfl (by decide) (by omega) v152 y151 l0_1 _ _ _ (fun k_ => k_ ≠ gb147) (fun _ => False) rfl rfl ?aO ?aR (fun _ _ h => h) (fun _ h => h.elim) ?aF ?aB ?aS ?aL ?_
                        (case aR => repeat (first | exact (Kd.C_below HR0_1.out HB.out) | (with_reducible refine Kd.C_alloc ?_ _) | (with_reducible refine Kd.C_drewN ?_ _) | (with_reducible refine Kd.C_drew ?_)))
                        (case aB => exact (by repeat (first | (with_reducible first | exact HB.out | apply below_alloc | apply pw_below_drewN | apply below_drew1 | refine below_set ?_ GE146.out | refine below_set ?_ GE147.out | refine below_set ?_ GE150.out) | exact HB.out)))
                        (case aF => exact (fun k_ hk => Kd.freshB (g := gb147) (o := .cells #[.string a1_0, .bool a1_1, .bool a1_2] 39 (0, 0)) (by (with_reducible repeat (first | refine blk_drewN ?_ _ | refine blk_drew ?_ | refine blk_alloc ?_ _)); exact BK147.out) k_ hk))
                        (case aO => exact (by (with_reducible repeat (first | apply Kd.R_alloc | apply Kd.R_drewN | apply Kd.R_drew)); exact Kd.R_mono HO153.out (fun _ hk => hk.2)))
                        (case aS => exact (below_size (by repeat (first | (with_reducible first | exact HB.out | apply below_alloc | apply pw_below_drewN | apply below_drew1 | refine below_set ?_ GE146.out | refine below_set ?_ GE147.out | refine below_set ?_ GE150.out) | exact HB.out))))
                        (case aL => have := LMc25.out; omega)
                        intro v155 w81 ho hb hg hat
                        rw [← Ny154.out] at ho
                        have n0_ := Aside0.mk (blk_grown (g := gb146) (o := .cells #[.slice A0_0 l0_0.length c0_0, .slice A0_1 l0_1.length c0_1, .bool a0_2, .string a0_3] 30 (0, 0)) (by (with_reducible repeat (first | refine blk_drewN ?_ _ | refine blk_drew ?_ | refine blk_alloc ?_ _)); exact BK146.out) hg (Kd.R_ne HO153.out BK146.out (by decide)))
                        have n1_ := Aside0.mk (blk_grown (g := gb147) (o := .cells #[.string a1_0, .bool a1_1, .bool a1_2] 39 (0, 0)) (by (with_reducible repeat (first | refine blk_drewN ?_ _ | refine blk_drew ?_ | refine blk_alloc ?_ _)); exact BK147.out) hg (Kd.R_away HO153.out (fun _ hk => hk.2)))
                        have n2_ := Aside0.mk (blk_grown (g := gb150) (o := .cells #[.slice A0_0 l0_0.length c0_0, .slice A0_1 l0_1.length c0_1, .bool a0_2, .string a0_3] 30 (0, 0)) (by (with_reducible repeat (first | refine blk_drewN ?_ _ | refine blk_drew ?_ | refine blk_alloc ?_ _)); exact BK150.out) hg (Kd.R_ne HO153.out BK150.out (by decide)))
                        have n3_ := Aside0.mk (hb)
                        have n4_ := Aside0.mk (ho)
                        clear BK146
                        clear BK147
                        clear BK150
                        clear HB
                        clear HO153
                        have BK146 := n0_
                        have BK147 := n1_
                        have BK150 := n2_
                        have HB := n3_
                        have HO156 := n4_
                        clear n0_ n1_ n2_ n3_ n4_
                        clear ho hb hg hat
                        refine hK.out _ _ ⟨(blk_cell BK146.out 0).trans rfl, (blk_cell BK146.out 1).trans rfl, (blk_cell BK146.out 2).trans rfl, (blk_cell BK146.out 3).trans rfl, (blk_cell BK147.out 0).trans rfl, (blk_cell BK147.out 1).trans rfl, (blk_cell BK147.out 2).trans rfl⟩ (fun hHeld => ?_)
                        clear hK K
                        refine norm_ (a' := ?_) ?_ ?_
                        rotate_left
                        · show Act.put _ (some 35) _ = _
                          simp only [Act.put, List.setIfInBounds_toArray, List.set_cons_zero, List.set_cons_succ, i64_w, i32_w]
                          rfl
                        refine one_ (i := 5) (N := some 37) #[true, true, true, true, true, true, false, false, false] rfl rfl (one_of HT_.out (by kernel_rfl)) (by decide) (fun K hK => ?_)
                        refine Kd.R_lit_step k39 _ 39 ?hg (N := 37) ?hd (xs := ([(⟨a1_0, a1_1, a1_2⟩ : S39)] : List (S39))) (inner := [.string a1_0, .bool a1_1, .bool a1_2]) (ok := fun _ => True) (okp := fun _ => True) ?hr ?hp (fun _ hk => hk) trivial (Below.refl _ _) (Nat.le_refl _) (by simp) ?_; (case hd => rfl); (case hg => rfl); (case hr => first | (go_simp; done) | (go_simp; rfl)); (case hp => exact (Reps.c3 (show Kd.M k39 _ _ _ (⟨a1_0, a1_1, a1_2⟩ : S39) [.string a1_0, .bool a1_1, .bool a1_2] from (k39_mkM _ _ _ (⟨a1_0, a1_1, a1_2⟩ : S39) )) (Reps.none _ _)))
                        intro v158 w82 ho83 hb hg_ hnew_
                        clear hg_ hnew_
                        (first | rw [← Ny157.out] at ho83 | (simp only [Int.reduceToNat] at ho83; rw [← Ny157.out] at ho83))
                        have n0_ := Aside0.mk (Kd.R_elder' (by (with_reducible repeat (first | apply Kd.R_alloc | apply Kd.R_drewN | apply Kd.R_drew)); exact HO156.out) (Kd.R_base ho83) hb)
                        have n1_ := Aside0.mk (Kd.R_lower (Kd.R_newB (Kd.R_new' ho83 (Kd.R_lt (by (with_reducible repeat (first | apply Kd.R_alloc | apply Kd.R_drewN | apply Kd.R_drew)); exact HO156.out))) (g := gb147) (o := .cells #[.string a1_0, .bool a1_1, .bool a1_2] 39 (0, 0)) (by (with_reducible repeat (first | refine blk_drewN ?_ _ | refine blk_drew ?_ | refine blk_alloc ?_ _)); exact BK147.out)) (below_size (by repeat (first | (with_reducible first | exact HB.out | apply below_alloc | apply pw_below_drewN | apply below_drew1 | refine below_set ?_ GE146.out | refine below_set ?_ GE147.out | refine below_set ?_ GE150.out) | exact HB.out))))
                        have n2_ := Aside0.mk (blk_below (g := gb146) (o := .cells #[.slice A0_0 l0_0.length c0_0, .slice A0_1 l0_1.length c0_1, .bool a0_2, .string a0_3] 30 (0, 0)) (by (with_reducible repeat (first | refine blk_drewN ?_ _ | refine blk_drew ?_ | refine blk_alloc ?_ _)); exact BK146.out) hb)
                        have n3_ := Aside0.mk (blk_below (g := gb147) (o := .cells #[.string a1_0, .bool a1_1, .bool a1_2] 39 (0, 0)) (by (with_reducible repeat (first | refine blk_drewN ?_ _ | refine blk_drew ?_ | refine blk_alloc ?_ _)); exact BK147.out) hb)
                        have n4_ := Aside0.mk (blk_below (g := gb150) (o := .cells #[.slice A0_0 l0_0.length c0_0, .slice A0_1 l0_1.length c0_1, .bool a0_2, .string a0_3] 30 (0, 0)) (by (with_reducible repeat (first | refine blk_drewN ?_ _ | refine blk_drew ?_ | refine blk_alloc ?_ _)); exact BK150.out) hb)
                        have n5_ := Aside0.mk (below_step (by repeat (first | (with_reducible first | exact HB.out | apply below_alloc | apply pw_below_drewN | apply below_drew1 | refine below_set ?_ GE146.out | refine below_set ?_ GE147.out | refine below_set ?_ GE150.out) | exact HB.out)) hb)
                        clear HO156
                        clear BK146
                        clear BK147
                        clear BK150
                        clear HB
                        have HO156 := n0_
                        have HO159 := n1_
                        have BK146 := n2_
                        have BK147 := n3_
                        have BK150 := n4_
                        have HB := n5_
                        clear n0_ n1_ n2_ n3_ n4_ n5_
                        clear hb ho83
                        refine hK.out _ _ ⟨(blk_cell BK146.out 0).trans rfl, (blk_cell BK146.out 1).trans rfl, (blk_cell BK146.out 2).trans rfl, (blk_cell BK146.out 3).trans rfl, (blk_cell BK147.out 0).trans rfl, (blk_cell BK147.out 1).trans rfl, (blk_cell BK147.out 2).trans rfl⟩ (fun hHeld => ?_)
                        clear hK K
                        refine norm_ (a' := ?_) ?_ ?_
                        rotate_left
                        · show Act.put _ (some 37) _ = _
                          simp only [Act.put, List.setIfInBounds_toArray, List.set_cons_zero, List.set_cons_succ, i64_w, i32_w]
                          rfl
                        exact norm_ (by simp only [putAll, Act.put, List.setIfInBounds_toArray, List.set_cons_zero, List.set_cons_succ]) (hCont (v152, v155, v158) _ ⟨hHeld, (by (with_reducible repeat (first | apply Kd.R_alloc | apply Kd.R_drewN | apply Kd.R_drew)); exact Kd.R_mono HO156.out (fun _ hk => ⟨hk.2, hk.1⟩)), (by (with_reducible repeat (first | apply Kd.R_alloc | apply Kd.R_drewN | apply Kd.R_drew)); exact Kd.R_mono HO159.out (fun _ hk => ⟨hk.1.2, hk.2⟩)), (by (with_reducible repeat (first | refine blk_drewN ?_ _ | refine blk_drew ?_ | refine blk_alloc ?_ _)); exact BK146.out), (by (with_reducible repeat (first | refine blk_drewN ?_ _ | refine blk_drew ?_ | refine blk_alloc ?_ _)); exact BK147.out), (by (with_reducible repeat (first | refine blk_drewN ?_ _ | refine blk_drew ?_ | refine blk_alloc ?_ _)); exact BK150.out), (by repeat (first | (with_reducible first | exact HB.out | apply below_alloc | apply pw_below_drewN | apply below_drew1 | refine below_set ?_ GE146.out | refine below_set ?_ GE147.out | refine below_set ?_ GE150.out) | exact HB.out))⟩)
                      · skip
                        refine Kd.R_lit_step k39 _ 39 ?hg (N := 37) ?hd (xs := ([(⟨a1_0, a1_1, a1_2⟩ : S39)] : List (S39))) (inner := [.string a1_0, .bool a1_1, .bool a1_2]) (ok := fun _ => True) (okp := fun _ => True) ?hr ?hp (fun _ hk => hk) trivial (Below.refl _ _) (Nat.le_refl _) (by simp) ?_; (case hd => rfl); (case hg => rfl); (case hr => first | (go_simp; done) | (go_simp; rfl)); (case hp => exact (Reps.c3 (show Kd.M k39 _ _ _ (⟨a1_0, a1_1, a1_2⟩ : S39) [.string a1_0, .bool a1_1, .bool a1_2] from (k39_mkM _ _ _ (⟨a1_0, a1_1, a1_2⟩ : S39) )) (Reps.none _ _)))
                        intro v158 w81 ho82 hb hg_ hnew_
                        clear hg_ hnew_
                        (first | rw [← Ny157.out] at ho82 | (simp only [Int.reduceToNat] at ho82; rw [← Ny157.out] at ho82))
                        have n0_ := Aside0.mk (Kd.R_elder' (by (with_reducible repeat (first | apply Kd.R_alloc | apply Kd.R_drewN | apply Kd.R_drew)); exact HO153.out) (Kd.R_base ho82) hb)
                        have n1_ := Aside0.mk (Kd.R_lower (Kd.R_newB (Kd.R_new' ho82 (Kd.R_lt (by (with_reducible repeat (first | apply Kd.R_alloc | apply Kd.R_drewN | apply Kd.R_drew)); exact HO153.out))) (g := gb147) (o := .cells #[.string a1_0, .bool a1_1, .bool a1_2] 39 (0, 0)) (by (with_reducible repeat (first | refine blk_drewN ?_ _ | refine blk_drew ?_ | refine blk_alloc ?_ _)); exact BK147.out)) (below_size (by repeat (first | (with_reducible first | exact HB.out | apply below_alloc | apply pw_below_drewN | apply below_drew1 | refine below_set ?_ GE146.out | refine below_set ?_ GE147.out | refine below_set ?_ GE150.out) | exact HB.out))))
                        have n2_ := Aside0.mk (blk_below (g := gb146) (o := .cells #[.slice A0_0 l0_0.length c0_0, .slice A0_1 l0_1.length c0_1, .bool a0_2, .string a0_3] 30 (0, 0)) (by (with_reducible repeat (first | refine blk_drewN ?_ _ | refine blk_drew ?_ | refine blk_alloc ?_ _)); exact BK146.out) hb)
                        have n3_ := Aside0.mk (blk_below (g := gb147) (o := .cells #[.string a1_0, .bool a1_1, .bool a1_2] 39 (0, 0)) (by (with_reducible repeat (first | refine blk_drewN ?_ _ | refine blk_drew ?_ | refine blk_alloc ?_ _)); exact BK147.out) hb)
                        have n4_ := Aside0.mk (blk_below (g := gb150) (o := .cells #[.slice A0_0 l0_0.length c0_0, .slice A0_1 l0_1.length c0_1, .bool a0_2, .string a0_3] 30 (0, 0)) (by (with_reducible repeat (first | refine blk_drewN ?_ _ | refine blk_drew ?_ | refine blk_alloc ?_ _)); exact BK150.out) hb)
                        have n5_ := Aside0.mk (below_step (by repeat (first | (with_reducible first | exact HB.out | apply below_alloc | apply pw_below_drewN | apply below_drew1 | refine below_set ?_ GE146.out | refine below_set ?_ GE147.out | refine below_set ?_ GE150.out) | exact HB.out)) hb)
                        clear HO153
                        clear BK146
                        clear BK147
                        clear BK150
                        clear HB
                        have HO153 := n0_
                        have HO159 := n1_
                        have BK146 := n2_
                        have BK147 := n3_
                        have BK150 := n4_
                        have HB := n5_
                        clear n0_ n1_ n2_ n3_ n4_ n5_
                        clear hb ho82
                        refine hK.out _ _ ⟨(blk_cell BK146.out 0).trans rfl, (blk_cell BK146.out 1).trans rfl, (blk_cell BK146.out 2).trans rfl, (blk_cell BK146.out 3).trans rfl, (blk_cell BK147.out 0).trans rfl, (blk_cell BK147.out 1).trans rfl, (blk_cell BK147.out 2).trans rfl⟩ (fun hHeld => ?_)
                        clear hK K
                        refine norm_ (a' := ?_) ?_ ?_
                        rotate_left
                        · show Act.put _ (some 37) _ = _
                          simp only [Act.put, List.setIfInBounds_toArray, List.set_cons_zero, List.set_cons_succ, i64_w, i32_w]
                          rfl
                        refine one_ (i := 3) (N := some 35) #[true, true, true, true, true, true, false, false, false] rfl rfl (one_of HT_.out (by kernel_rfl)) (by decide) (fun K hK => ?_)
                        refine Kd.R_append_rows_step k39 (w0 := w) w.heap.size (by rfl) (.tmp 32) (.tmp 34) 28 39 (.agg #[(.string ⟨#[]⟩), (.bool false), (.bool false)]) 24 rfl Tryd.underlying28 info39 rfl (by decide) (by omega) v152 y151 l0_1 _ _ _ (fun k_ => some k_ ≠ (v158 : Value).ownBlock ∧ k_ ≠ gb147) (fun _ => False) rfl rfl ?aO ?aR (fun _ _ h => h) (fun _ h => h.elim) ?aF ?aB ?aS ?aL ?_
                        (case aR => repeat (first | exact (Kd.C_below HR0_1.out HB.out) | (with_reducible refine Kd.C_alloc ?_ _) | (with_reducible refine Kd.C_drewN ?_ _) | (with_reducible refine Kd.C_drew ?_)))
                        (case aB => exact (by repeat (first | (with_reducible first | exact HB.out | apply below_alloc | apply pw_below_drewN | apply below_drew1 | refine below_set ?_ GE146.out | refine below_set ?_ GE147.out | refine below_set ?_ GE150.out) | exact HB.out)))
                        (case aF => exact (fun k_ hk => ⟨Kd.fresh' (Kd.R_lt (by (with_reducible repeat (first | apply Kd.R_alloc | apply Kd.R_drewN | apply Kd.R_drew)); exact HO159.out)) k_ hk, Kd.freshB (g := gb147) (o := .cells #[.string a1_0, .bool a1_1, .bool a1_2] 39 (0, 0)) (by (with_reducible repeat (first | refine blk_drewN ?_ _ | refine blk_drew ?_ | refine blk_alloc ?_ _)); exact BK147.out) k_ hk⟩))
                        (case aO => exact (by (with_reducible repeat (first | apply Kd.R_alloc | apply Kd.R_drewN | apply Kd.R_drew)); exact Kd.R_mono HO153.out (fun _ hk => ⟨hk.2, hk.1.2⟩)))
                        (case aS => exact (below_size (by repeat (first | (with_reducible first | exact HB.out | apply below_alloc | apply pw_below_drewN | apply below_drew1 | refine below_set ?_ GE146.out | refine below_set ?_ GE147.out | refine below_set ?_ GE150.out) | exact HB.out))))
                        (case aL => have := LMc25.out; omega)
                        intro v155 w83 ho hb hg hat
                        rw [← Ny154.out] at ho
                        have n0_ := Aside0.mk (blk_grown (g := gb146) (o := .cells #[.slice A0_0 l0_0.length c0_0, .slice A0_1 l0_1.length c0_1, .bool a0_2, .string a0_3] 30 (0, 0)) (by (with_reducible repeat (first | refine blk_drewN ?_ _ | refine blk_drew ?_ | refine blk_alloc ?_ _)); exact BK146.out) hg (Kd.R_ne HO153.out BK146.out (by decide)))
                        have n1_ := Aside0.mk (blk_grown (g := gb147) (o := .cells #[.string a1_0, .bool a1_1, .bool a1_2] 39 (0, 0)) (by (with_reducible repeat (first | refine blk_drewN ?_ _ | refine blk_drew ?_ | refine blk_alloc ?_ _)); exact BK147.out) hg (Kd.R_away HO153.out (fun _ hk => hk.1.2)))
                        have n2_ := Aside0.mk (blk_grown (g := gb150) (o := .cells #[.slice A0_0 l0_0.length c0_0, .slice A0_1 l0_1.length c0_1, .bool a0_2, .string a0_3] 30 (0, 0)) (by (with_reducible repeat (first | refine blk_drewN ?_ _ | refine blk_drew ?_ | refine blk_alloc ?_ _)); exact BK150.out) hg (Kd.R_ne HO153.out BK150.out (by decide)))
                        have n3_ := Aside0.mk (Kd.R_after (ok := (fun k_ => k_ ≠ gb147)) (by (with_reducible repeat (first | apply Kd.R_alloc | apply Kd.R_drewN | apply Kd.R_drew)); exact Kd.R_mono HO159.out (fun _ hk => ⟨hk.2, hk.1.2⟩)) hg hat)
                        have n4_ := Aside0.mk (hb)
                        have n5_ := Aside0.mk (ho)
                        clear BK146
                        clear BK147
                        clear BK150
                        clear HO159
                        clear HB
                        clear HO153
                        have BK146 := n0_
                        have BK147 := n1_
                        have BK150 := n2_
                        have HO159 := n3_
                        have HB := n4_
                        have HO156 := n5_
                        clear n0_ n1_ n2_ n3_ n4_ n5_
                        clear ho hb hg hat
                        refine hK.out _ _ ⟨(blk_cell BK146.out 0).trans rfl, (blk_cell BK146.out 1).trans rfl, (blk_cell BK146.out 2).trans rfl, (blk_cell BK146.out 3).trans rfl, (blk_cell BK147.out 0).trans rfl, (blk_cell BK147.out 1).trans rfl, (blk_cell BK147.out 2).trans rfl⟩ (fun hHeld => ?_)
                        clear hK K
                        refine norm_ (a' := ?_) ?_ ?_
                        rotate_left
                        · show Act.put _ (some 35) _ = _
                          simp only [Act.put, List.setIfInBounds_toArray, List.set_cons_zero, List.set_cons_succ, i64_w, i32_w]
                          rfl
                        exact norm_ (by simp only [putAll, Act.put, List.setIfInBounds_toArray, List.set_cons_zero, List.set_cons_succ]) (hCont (v152, v155, v158) _ ⟨hHeld, (by (with_reducible repeat (first | apply Kd.R_alloc | apply Kd.R_drewN | apply Kd.R_drew)); exact HO156.out), (by (with_reducible repeat (first | apply Kd.R_alloc | apply Kd.R_drewN | apply Kd.R_drew)); exact Kd.R_mono HO159.out (fun _ hk => ⟨hk.2, hk.1⟩)), (by (with_reducible repeat (first | refine blk_drewN ?_ _ | refine blk_drew ?_ | refine blk_alloc ?_ _)); exact BK146.out), (by (with_reducible repeat (first | refine blk_drewN ?_ _ | refine blk_drew ?_ | refine blk_alloc ?_ _)); exact BK147.out), (by (with_reducible repeat (first | refine blk_drewN ?_ _ | refine blk_drew ?_ | refine blk_alloc ?_ _)); exact BK150.out), (by repeat (first | (with_reducible first | exact HB.out | apply below_alloc | apply pw_below_drewN | apply below_drew1 | refine below_set ?_ GE146.out | refine below_set ?_ GE147.out | refine below_set ?_ GE150.out) | exact HB.out))⟩)
                    · skip
                      refine Kd.R_lit_step k39 _ 39 ?hg (N := 37) ?hd (xs := ([(⟨a1_0, a1_1, a1_2⟩ : S39)] : List (S39))) (inner := [.string a1_0, .bool a1_1, .bool a1_2]) (ok := fun _ => True) (okp := fun _ => True) ?hr ?hp (fun _ hk => hk) trivial (Below.refl _ _) (Nat.le_refl _) (by simp) ?_; (case hd => rfl); (case hg => rfl); (case hr => first | (go_simp; done) | (go_simp; rfl)); (case hp => exact (Reps.c3 (show Kd.M k39 _ _ _ (⟨a1_0, a1_1, a1_2⟩ : S39) [.string a1_0, .bool a1_1, .bool a1_2] from (k39_mkM _ _ _ (⟨a1_0, a1_1, a1_2⟩ : S39) )) (Reps.none _ _)))
                      intro v158 w79 ho80 hb hg_ hnew_
                      clear hg_ hnew_
                      (first | rw [← Ny157.out] at ho80 | (simp only [Int.reduceToNat] at ho80; rw [← Ny157.out] at ho80))
                      have n0_ := Aside0.mk (Kd.R_lower (Kd.R_newB ho80 (g := gb147) (o := .cells #[.string a1_0, .bool a1_1, .bool a1_2] 39 (0, 0)) (by (with_reducible repeat (first | refine blk_drewN ?_ _ | refine blk_drew ?_ | refine blk_alloc ?_ _)); exact BK147.out)) (below_size (by repeat (first | (with_reducible first | exact HB.out | apply below_alloc | apply pw_below_drewN | apply below_drew1 | refine below_set ?_ GE146.out | refine below_set ?_ GE147.out | refine below_set ?_ GE150.out) | exact HB.out))))
                      have n1_ := Aside0.mk (blk_below (g := gb146) (o := .cells #[.slice A0_0 l0_0.length c0_0, .slice A0_1 l0_1.length c0_1, .bool a0_2, .string a0_3] 30 (0, 0)) (by (with_reducible repeat (first | refine blk_drewN ?_ _ | refine blk_drew ?_ | refine blk_alloc ?_ _)); exact BK146.out) hb)
                      have n2_ := Aside0.mk (blk_below (g := gb147) (o := .cells #[.string a1_0, .bool a1_1, .bool a1_2] 39 (0, 0)) (by (with_reducible repeat (first | refine blk_drewN ?_ _ | refine blk_drew ?_ | refine blk_alloc ?_ _)); exact BK147.out) hb)
                      have n3_ := Aside0.mk (blk_below (g := gb150) (o := .cells #[.slice A0_0 l0_0.length c0_0, .slice A0_1 l0_1.length c0_1, .bool a0_2, .string a0_3] 30 (0, 0)) (by (with_reducible repeat (first | refine blk_drewN ?_ _ | refine blk_drew ?_ | refine blk_alloc ?_ _)); exact BK150.out) hb)
                      have n4_ := Aside0.mk (below_step (by repeat (first | (with_reducible first | exact HB.out | apply below_alloc | apply pw_below_drewN | apply below_drew1 | refine below_set ?_ GE146.out | refine below_set ?_ GE147.out | refine below_set ?_ GE150.out) | exact HB.out)) hb)
                      clear BK146
                      clear BK147
                      clear BK150
                      clear HB
                      have HO159 := n0_
                      have BK146 := n1_
                      have BK147 := n2_
                      have BK150 := n3_
                      have HB := n4_
                      clear n0_ n1_ n2_ n3_ n4_
                      clear hb ho80
                      refine hK.out _ _ ⟨(blk_cell BK146.out 0).trans rfl, (blk_cell BK146.out 1).trans rfl, (blk_cell BK146.out 2).trans rfl, (blk_cell BK146.out 3).trans rfl, (blk_cell BK147.out 0).trans rfl, (blk_cell BK147.out 1).trans rfl, (blk_cell BK147.out 2).trans rfl⟩ (fun hHeld => ?_)
                      clear hK K
                      refine norm_ (a' := ?_) ?_ ?_
                      rotate_left
                      · show Act.put _ (some 37) _ = _
                        simp only [Act.put, List.setIfInBounds_toArray, List.set_cons_zero, List.set_cons_succ, i64_w, i32_w]
                        rfl
                      refine one_ (i := 0) (N := some 32) #[true, true, true, false, true, true, false, false, false] rfl rfl (one_of HT_.out (by kernel_rfl)) (by decide) (fun K hK => ?_)
                      refine Kd.R_lit_step k39 _ 39 ?hg (N := 32) ?hd (xs := ([] : List (S39))) (inner := []) (ok := fun _ => True) (okp := fun _ => True) ?hr ?hp (fun _ hk => hk) trivial (Below.refl _ _) (Nat.le_refl _) (by simp) ?_; (case hd => rfl); (case hg => rfl); (case hr => first | (go_simp; done) | (go_simp; rfl)); (case hp => exact (Reps.none _ _))
                      intro v152 w81 ho82 hb hg_ hnew_
                      clear hg_ hnew_
                      (first | rw [← Ny151.out] at ho82 | (simp only [Int.reduceToNat] at ho82; rw [← Ny151.out] at ho82))
                      have n0_ := Aside0.mk (Kd.R_elder' (by (with_reducible repeat (first | apply Kd.R_alloc | apply Kd.R_drewN | apply Kd.R_drew)); exact HO159.out) (Kd.R_base ho82) hb)
                      have n1_ := Aside0.mk (Kd.R_lower (Kd.R_newB (Kd.R_new' ho82 (Kd.R_lt (by (with_reducible repeat (first | apply Kd.R_alloc | apply Kd.R_drewN | apply Kd.R_drew)); exact HO159.out))) (g := gb147) (o := .cells #[.string a1_0, .bool a1_1, .bool a1_2] 39 (0, 0)) (by (with_reducible repeat (first | refine blk_drewN ?_ _ | refine blk_drew ?_ | refine blk_alloc ?_ _)); exact BK147.out)) (below_size (by repeat (first | (with_reducible first | exact HB.out | apply below_alloc | apply pw_below_drewN | apply below_drew1 | refine below_set ?_ GE146.out | refine below_set ?_ GE147.out | refine below_set ?_ GE150.out) | exact HB.out))))
                      have n2_ := Aside0.mk (blk_below (g := gb146) (o := .cells #[.slice A0_0 l0_0.length c0_0, .slice A0_1 l0_1.length c0_1, .bool a0_2, .string a0_3] 30 (0, 0)) (by (with_reducible repeat (first | refine blk_drewN ?_ _ | refine blk_drew ?_ | refine blk_alloc ?_ _)); exact BK146.out) hb)
                      have n3_ := Aside0.mk (blk_below (g := gb147) (o := .cells #[.string a1_0, .bool a1_1, .bool a1_2] 39 (0, 0)) (by (with_reducible repeat (first | refine blk_drewN ?_ _ | refine blk_drew ?_ | refine blk_alloc ?_ _)); exact BK147.out) hb)
                      have n4_ := Aside0.mk (blk_below (g := gb150) (o := .cells #[.slice A0_0 l0_0.length c0_0, .slice A0_1 l0_1.length c0_1, .bool a0_2, .string a0_3] 30 (0, 0)) (by (with_reducible repeat (first | refine blk_drewN ?_ _ | refine blk_drew ?_ | refine blk_alloc ?_ _)); exact BK150.out) hb)
                      have n5_ := Aside0.mk (below_step (by repeat (first | (with_reducible first | exact HB.out | apply below_alloc | apply pw_below_drewN | apply below_drew1 | refine below_set ?_ GE146.out | refine below_set ?_ GE147.out | refine below_set ?_ GE150.out) | exact HB.out)) hb)
                      clear HO159
                      clear BK146
                      clear BK147
                      clear BK150
                      clear HB
                      have HO159 := n0_
                      have HO153 := n1_
                      have BK146 := n2_
                      have BK147 := n3_
                      have BK150 := n4_
                      have HB := n5_
                      clear n0_ n1_ n2_ n3_ n4_ n5_
                      clear hb ho82
                      refine hK.out _ _ ⟨(blk_cell BK146.out 0).trans rfl, (blk_cell BK146.out 1).trans rfl, (blk_cell BK146.out 2).trans rfl, (blk_cell BK146.out 3).trans rfl, (blk_cell BK147.out 0).trans rfl, (blk_cell BK147.out 1).trans rfl, (blk_cell BK147.out 2).trans rfl⟩ (fun hHeld => ?_)
                      clear hK K
                      refine norm_ (a' := ?_) ?_ ?_
                      rotate_left
                      · show Act.put _ (some 32) _ = _
                        simp only [Act.put, List.setIfInBounds_toArray, List.set_cons_zero, List.set_cons_succ, i64_w, i32_w]
                        rfl
                      refine one_ (i := 3) (N := some 35) #[true, true, true, true, true, true, false, false, false] rfl rfl (one_of HT_.out (by kernel_rfl)) (by decide) (fun K hK => ?_)
                      refine Kd.R_append_rows_step k39 (w0 := w) w.heap.size (by rfl) (.tmp 32) (.tmp 34) 28 39 (.agg #[(.string ⟨#[]⟩), (.bool false), (.bool false)]) 24 rfl Tryd.underlying28 info39 rfl (by decide) (by omega) v152 y151 l0_1 _ _ _ (fun k_ => some k_ ≠ (v158 : Value).ownBlock ∧ k_ ≠ gb147) (fun _ => False) rfl rfl ?aO ?aR (fun _ _ h => h) (fun _ h => h.elim) ?aF ?aB ?aS ?aL ?_
                      (case aR => repeat (first | exact (Kd.C_below HR0_1.out HB.out) | (with_reducible refine Kd.C_alloc ?_ _) | (with_reducible refine Kd.C_drewN ?_ _) | (with_reducible refine Kd.C_drew ?_)))
                      (case aB => exact (by repeat (first | (with_reducible first | exact HB.out | apply below_alloc | apply pw_below_drewN | apply below_drew1 | refine below_set ?_ GE146.out | refine below_set ?_ GE147.out | refine below_set ?_ GE150.out) | exact HB.out)))
                      (case aF => exact (fun k_ hk => ⟨Kd.fresh' (Kd.R_lt (by (with_reducible repeat (first | apply Kd.R_alloc | apply Kd.R_drewN | apply Kd.R_drew)); exact HO159.out)) k_ hk, Kd.freshB (g := gb147) (o := .cells #[.string a1_0, .bool a1_1, .bool a1_2] 39 (0, 0)) (by (with_reducible repeat (first | refine blk_drewN ?_ _ | refine blk_drew ?_ | refine blk_alloc ?_ _)); exact BK147.out) k_ hk⟩))
                      (case aO => exact (by (with_reducible repeat (first | apply Kd.R_alloc | apply Kd.R_drewN | apply Kd.R_drew)); exact Kd.R_mono HO153.out (fun _ hk => ⟨hk.1.2, hk.2⟩)))
                      (case aS => exact (below_size (by repeat (first | (with_reducible first | exact HB.out | apply below_alloc | apply pw_below_drewN | apply below_drew1 | refine below_set ?_ GE146.out | refine below_set ?_ GE147.out | refine below_set ?_ GE150.out) | exact HB.out))))
                      (case aL => have := LMc25.out; omega)
                      intro v155 w83 ho hb hg hat
                      rw [← Ny154.out] at ho
                      have n0_ := Aside0.mk (blk_grown (g := gb146) (o := .cells #[.slice A0_0 l0_0.length c0_0, .slice A0_1 l0_1.length c0_1, .bool a0_2, .string a0_3] 30 (0, 0)) (by (with_reducible repeat (first | refine blk_drewN ?_ _ | refine blk_drew ?_ | refine blk_alloc ?_ _)); exact BK146.out) hg (Kd.R_ne HO153.out BK146.out (by decide)))
                      have n1_ := Aside0.mk (blk_grown (g := gb147) (o := .cells #[.string a1_0, .bool a1_1, .bool a1_2] 39 (0, 0)) (by (with_reducible repeat (first | refine blk_drewN ?_ _ | refine blk_drew ?_ | refine blk_alloc ?_ _)); exact BK147.out) hg (Kd.R_away HO153.out (fun _ hk => hk.2)))
                      have n2_ := Aside0.mk (blk_grown (g := gb150) (o := .cells #[.slice A0_0 l0_0.length c0_0, .slice A0_1 l0_1.length c0_1, .bool a0_2, .string a0_3] 30 (0, 0)) (by (with_reducible repeat (first | refine blk_drewN ?_ _ | refine blk_drew ?_ | refine blk_alloc ?_ _)); exact BK150.out) hg (Kd.R_ne HO153.out BK150.out (by decide)))
                      have n3_ := Aside0.mk (Kd.R_after (ok := (fun k_ => k_ ≠ gb147)) (by (with_reducible repeat (first | apply Kd.R_alloc | apply Kd.R_drewN | apply Kd.R_drew)); exact Kd.R_mono HO159.out (fun _ hk => ⟨hk.1.2, hk.2⟩)) hg hat)
                      have n4_ := Aside0.mk (hb)
                      have n5_ := Aside0.mk (ho)
                      clear BK146
                      clear BK147
                      clear BK150
                      clear HO159
                      clear HB
                      clear HO153
                      have BK146 := n0_
                      have BK147 := n1_
                      have BK150 := n2_
                      have HO159 := n3_
                      have HB := n4_
                      have HO156 := n5_
                      clear n0_ n1_ n2_ n3_ n4_ n5_
                      clear ho hb hg hat
                      refine hK.out _ _ ⟨(blk_cell BK146.out 0).trans rfl, (blk_cell BK146.out 1).trans rfl, (blk_cell BK146.out 2).trans rfl, (blk_cell BK146.out 3).trans rfl, (blk_cell BK147.out 0).trans rfl, (blk_cell BK147.out 1).trans rfl, (blk_cell BK147.out 2).trans rfl⟩ (fun hHeld => ?_)
                      clear hK K
                      refine norm_ (a' := ?_) ?_ ?_
                      rotate_left
                      · show Act.put _ (some 35) _ = _
                        simp only [Act.put, List.setIfInBounds_toArray, List.set_cons_zero, List.set_cons_succ, i64_w, i32_w]
                        rfl
                      exact norm_ (by simp only [putAll, Act.put, List.setIfInBounds_toArray, List.set_cons_zero, List.set_cons_succ]) (hCont (v152, v155, v158) _ ⟨hHeld, (by (with_reducible repeat (first | apply Kd.R_alloc | apply Kd.R_drewN | apply Kd.R_drew)); exact HO156.out), (by (with_reducible repeat (first | apply Kd.R_alloc | apply Kd.R_drewN | apply Kd.R_drew)); exact Kd.R_mono HO159.out (fun _ hk => ⟨hk.2, hk.1⟩)), (by (with_reducible repeat (first | refine blk_drewN ?_ _ | refine blk_drew ?_ | refine blk_alloc ?_ _)); exact BK146.out), (by (with_reducible repeat (first | refine blk_drewN ?_ _ | refine blk_drew ?_ | refine blk_alloc ?_ _)); exact BK147.out), (by (with_reducible repeat (first | refine blk_drewN ?_ _ | refine blk_drew ?_ | refine blk_alloc ?_ _)); exact BK150.out), (by repeat (first | (with_reducible first | exact HB.out | apply below_alloc | apply pw_below_drewN | apply below_drew1 | refine below_set ?_ GE146.out | refine below_set ?_ GE147.out | refine below_set ?_ GE150.out) | exact HB.out))⟩)
                  rintro ⟨v152, v155, v158⟩ w84 ⟨hS_, h0_, h1_, h2_, h3_, h4_, h5_⟩
                  have n0_ : Aside0 (Kd.R k39 39 w84 w.heap.size (fun k_ => some k_ ≠ (v158 : Value).ownBlock ∧ k_ ≠ gb147) v155 y154) := ⟨h0_⟩
                  have n1_ : Aside0 (Kd.R k39 39 w84 w.heap.size (fun k_ => some k_ ≠ (v155 : Value).ownBlock ∧ k_ ≠ gb147) v158 y157) := ⟨h1_⟩
                  have n2_ : Aside0 (w84.heap[gb146]? = some (.cells #[.slice A0_0 l0_0.length c0_0, .slice A0_1 l0_1.length c0_1, .bool a0_2, .string a0_3] 30 (0, 0))) := ⟨h2_⟩
                  have n3_ : Aside0 (w84.heap[gb147]? = some (.cells #[.string a1_0, .bool a1_1, .bool a1_2] 39 (0, 0))) := ⟨h3_⟩
                  have n4_ : Aside0 (w84.heap[gb150]? = some (.cells #[.slice A0_0 l0_0.length c0_0, .slice A0_1 l0_1.length c0_1, .bool a0_2, .string a0_3] 30 (0, 0))) := ⟨h4_⟩
                  have n5_ : Aside0 (Below w.heap.size w w84) := ⟨h5_⟩
                  clear BK146
                  clear BK147
                  clear BK150
                  clear HB
                  clear h0_ h1_ h2_ h3_ h4_ h5_
                  have HO156 := n0_
                  have HO159 := n1_
                  have BK146 := n2_
                  have BK147 := n3_
                  have BK150 := n4_
                  have HB := n5_
                  clear n0_ n1_ n2_ n3_ n4_ n5_
                  have hHeld : w84.cell? ⟨gb146, 0, none⟩ = some (.slice A0_0 l0_0.length c0_0) ∧ w84.cell? ⟨gb146, 1, none⟩ = some (.slice A0_1 l0_1.length c0_1) ∧ w84.cell? ⟨gb146, 2, none⟩ = some (.bool a0_2) ∧ w84.cell? ⟨gb146, 3, none⟩ = some (.string a0_3) ∧ w84.cell? ⟨gb147, 0, none⟩ = some (.string a1_0) ∧ w84.cell? ⟨gb147, 1, none⟩ = some (.bool a1_1) ∧ w84.cell? ⟨gb147, 2, none⟩ = some (.bool a1_2) := hS_
                  obtain ⟨Ao86, co86, eo86⟩ := Kd.R_slice HO159.out
                  (first | subst eo86 | (injection eo86 with f1_ f2_ f3_; have f4_ := f1_.symm; have f5_ := f3_.symm; clear f1_ f2_ f3_; subst f4_; subst f5_))
                  refine norm_ (a' := ?_) ?_ ?_
                  rotate_left
                  · simp only [putAll, Act.put, List.setIfInBounds_toArray, List.set_cons_zero, List.set_cons_succ]
                    rfl
                  refine one_ (i := 6) (N := some 38) #[true, true, true, true, true, true, true, false, false] rfl rfl (one_of HT_.out (by kernel_rfl)) (by decide) (fun K hK => ?_)
                  refine Kd.R_append_rows_step k39 (w0 := w) w.heap.size (by rfl) (.tmp 35) (.tmp 37) 28 39 (.agg #[(.string ⟨#[]⟩), (.bool false), (.bool false)]) 24 rfl Tryd.underlying28 info39 rfl (by decide) (by omega) v155 y154 y157 _ _ _ (fun k_ => some k_ ≠ (.slice Ao86 y157.length co86 : Value).ownBlock ∧ k_ ≠ gb147) (fun _ => False) rfl rfl ?aO ?aR (fun _ _ h => h) (fun _ h => h.elim) ?aF ?aB ?aS ?aL ?_
                  (case aR => repeat (first | exact (Kd.R_reads' HO159.out).2.2 | (with_reducible refine Kd.C_alloc ?_ _) | (with_reducible refine Kd.C_drewN ?_ _) | (with_reducible refine Kd.C_drew ?_)))
                  (case aB => exact (by repeat (first | (with_reducible first | exact HB.out | apply below_alloc | apply pw_below_drewN | apply below_drew1 | refine below_set ?_ GE146.out | refine below_set ?_ GE147.out | refine below_set ?_ GE150.out) | exact HB.out)))
                  (case aF => exact (fun k_ hk => ⟨Kd.fresh' (Kd.R_lt (by (with_reducible repeat (first | apply Kd.R_alloc | apply Kd.R_drewN | apply Kd.R_drew)); exact HO159.out)) k_ hk, Kd.freshB (g := gb147) (o := .cells #[.string a1_0, .bool a1_1, .bool a1_2] 39 (0, 0)) (by (with_reducible repeat (first | refine blk_drewN ?_ _ | refine blk_drew ?_ | refine blk_alloc ?_ _)); exact BK147.out) k_ hk⟩))
                  (case aO => exact (by (with_reducible repeat (first | apply Kd.R_alloc | apply Kd.R_drewN | apply Kd.R_drew)); exact HO156.out))
                  (case aS => exact (below_size (by repeat (first | (with_reducible first | exact HB.out | apply below_alloc | apply pw_below_drewN | apply below_drew1 | refine below_set ?_ GE146.out | refine below_set ?_ GE147.out | refine below_set ?_ GE150.out) | exact HB.out))))
                  (case aL => have := LMc26.out; omega)
                  intro v161 w85 ho hb hg hat
                  rw [← Ny160.out] at ho
                  have n0_ := Aside0.mk (blk_grown (g := gb146) (o := .cells #[.slice A0_0 l0_0.length c0_0, .slice A0_1 l0_1.length c0_1, .bool a0_2, .string a0_3] 30 (0, 0)) (by (with_reducible repeat (first | refine blk_drewN ?_ _ | refine blk_drew ?_ | refine blk_alloc ?_ _)); exact BK146.out) hg (Kd.R_ne HO156.out BK146.out (by decide)))
                  have n1_ := Aside0.mk (blk_grown (g := gb147) (o := .cells #[.string a1_0, .bool a1_1, .bool a1_2] 39 (0, 0)) (by (with_reducible repeat (first | refine blk_drewN ?_ _ | refine blk_drew ?_ | refine blk_alloc ?_ _)); exact BK147.out) hg (Kd.R_away HO156.out (fun _ hk => hk.2)))
                  have n2_ := Aside0.mk (blk_grown (g := gb150) (o := .cells #[.slice A0_0 l0_0.length c0_0, .slice A0_1 l0_1.length c0_1, .bool a0_2, .string a0_3] 30 (0, 0)) (by (with_reducible repeat (first | refine blk_drewN ?_ _ | refine blk_drew ?_ | refine blk_alloc ?_ _)); exact BK150.out) hg (Kd.R_ne HO156.out BK150.out (by decide)))
                  have n3_ := Aside0.mk (Kd.R_after (ok := (fun k_ => k_ ≠ gb147)) (by (with_reducible repeat (first | apply Kd.R_alloc | apply Kd.R_drewN | apply Kd.R_drew)); exact Kd.R_mono HO159.out (fun _ hk => ⟨hk.2, hk.1⟩)) hg hat)
                  have n4_ := Aside0.mk (hb)
                  have n5_ := Aside0.mk (ho)
                  clear BK146
                  clear BK147
                  clear BK150
                  clear HO159
                  clear HB
                  clear HO156
                  have BK146 := n0_
                  have BK147 := n1_
                  have BK150 := n2_
                  have HO159 := n3_
                  have HB := n4_
                  have HO162 := n5_
                  clear n0_ n1_ n2_ n3_ n4_ n5_
                  clear ho hb hg hat
                  obtain ⟨Ao87, co87, eo87⟩ := Kd.R_slice HO162.out
                  (first | subst eo87 | (injection eo87 with f1_ f2_ f3_; have f4_ := f1_.symm; have f5_ := f3_.symm; clear f1_ f2_ f3_; subst f4_; subst f5_))
                  refine hK.out _ _ ⟨(blk_cell BK146.out 0).trans rfl, (blk_cell BK146.out 1).trans rfl, (blk_cell BK146.out 2).trans rfl, (blk_cell BK146.out 3).trans rfl, (blk_cell BK147.out 0).trans rfl, (blk_cell BK147.out 1).trans rfl, (blk_cell BK147.out 2).trans rfl⟩ (fun hHeld => ?_)
                  clear hK K
                  refine norm_ (a' := ?_) ?_ ?_
                  rotate_left
                  · show Act.put _ (some 38) _ = _
                    simp only [Act.put, List.setIfInBounds_toArray, List.set_cons_zero, List.set_cons_succ, i64_w, i32_w]
                    rfl
                  refine pure_ (i := 7) (N := some 39) (v := ?_) (a' := ?_) #[true, true, true, true, true, true, true, true, false] rfl rfl (any_of HT_.out (by kernel_rfl)) (fun _ _ _ h => h) (Or.inl ⟨by rfl, ?_⟩) ?_ ?_
                  rotate_left
                  · intro w'
                    go_simp
                    with_reducible rfl
                  rotate_left
                  · simp only [Act.put, List.setIfInBounds_toArray, List.set_cons_zero, List.set_cons_succ, i64_w, i32_w]
                    rfl
                  refine one_ (i := 8) (N := none) #[true, true, true, true, true, true, true, true, true] rfl rfl (one_of HT_.out (by kernel_rfl)) (by decide) (fun K hK => ?_)
                  have hs88 : w85.cell? ⟨gb150, 1, none⟩ = some (.slice A0_1 l0_1.length c0_1) := (blk_cell BK150.out 1).trans rfl
                  have hfs88 := blk_frozen BK150.out 1
                  have hns88_0 := NB146_150.out
                  have hns88_1 := NB147_150.out
                  have hms88_0 := NB150_146.out
                  have hms88_1 := NB150_147.out
                  refine skip_ (w1 := ?_) (by rfl) rfl ?_ ?_
                  rotate_left
                  · go_simp
                    rfl
                  refine hK.out _ _ ⟨((cell_far (p := ⟨gb150, _, none⟩) NB146_150.out _).trans (hHeld.1)), ((cell_far (p := ⟨gb150, _, none⟩) NB146_150.out _).trans (hHeld.2.1)), ((cell_far (p := ⟨gb150, _, none⟩) NB146_150.out _).trans (hHeld.2.2.1)), ((cell_far (p := ⟨gb150, _, none⟩) NB146_150.out _).trans (hHeld.2.2.2.1)), ((cell_far (p := ⟨gb150, _, none⟩) NB147_150.out _).trans (hHeld.2.2.2.2.1)), ((cell_far (p := ⟨gb150, _, none⟩) NB147_150.out _).trans (hHeld.2.2.2.2.2.1)), ((cell_far (p := ⟨gb150, _, none⟩) NB147_150.out _).trans (hHeld.2.2.2.2.2.2))⟩ (fun hHeld => ?_)
                  clear hK K
                  refine done_ (done_of HT_.out (by kernel_rfl)) ?_
                  have hcz89_0 : w85.cell? ⟨gb146, 0, none⟩ = some (.slice A0_0 l0_0.length c0_0) := (blk_cell BK146.out 0).trans rfl
                  have hcz89_1 : w85.cell? ⟨gb146, 1, none⟩ = some (.slice A0_1 l0_1.length c0_1) := (blk_cell BK146.out 1).trans rfl
                  have hcz89_2 : w85.cell? ⟨gb146, 2, none⟩ = some (.bool a0_2) := (blk_cell BK146.out 2).trans rfl
                  have hcz89_3 : w85.cell? ⟨gb146, 3, none⟩ = some (.string a0_3) := (blk_cell BK146.out 3).trans rfl
                  have hfz89_0 := blk_frozen BK146.out 0
                  have hfz89_1 := blk_frozen BK146.out 1
                  have hfz89_2 := blk_frozen BK146.out 2
                  have hfz89_3 := blk_frozen BK146.out 3
                  try go_wp2_with (first | ((with_reducible refine gate_callee (f := 28) rfl ?_); refine goesL_ (some 43) rfl rfl Tryd.func28 (by kernel_rfl) rfl #[.agg #[.slice A0_0 l0_0.length c0_0, .slice A0_1 l0_1.length c0_1, .bool a0_2, .string a0_3], .string a2, .string a3] rfl (by (try simp only [List.map_toArray, List.map_cons, List.map_nil]); first | done | rfl | (simp only [List.length_drop, List.length_take]; rfl)) ?_; (with_reducible refine (decide_By.calls kj4 _ _ l0_0 _ _ l0_1 a0_2 a0_3 a2 a3 t163 t164 t167 _ ?side1 ?side2 ?side3 ?side4 A27.out ?sideL).mono ?_); (case sideL => first | exact HL.out.below (by repeat (first | (with_reducible first | exact HB.out | apply below_alloc | apply pw_below_drewN | apply below_drew1 | refine below_set ?_ GE150.out | refine below_set ?_ GE168.out | refine below_set ?_ GE146.out) | exact HB.out)) | exact (HL.out.below (by repeat (first | (with_reducible first | exact HB.out | apply below_alloc | apply pw_below_drewN | apply below_drew1 | refine below_set ?_ GE150.out | refine below_set ?_ GE168.out | refine below_set ?_ GE146.out) | exact HB.out))).1 | exact (HL.out.below (by repeat (first | (with_reducible first | exact HB.out | apply below_alloc | apply pw_below_drewN | apply below_drew1 | refine below_set ?_ GE150.out | refine below_set ?_ GE168.out | refine below_set ?_ GE146.out) | exact HB.out))).2); (case side1 => exact Kd.C_below HR0_0.out (by repeat (first | (with_reducible first | exact HB.out | apply below_alloc | apply pw_below_drewN | apply below_drew1 | refine below_set ?_ GE146.out | refine below_set ?_ GE147.out | refine below_set ?_ GE150.out) | exact HB.out))); (case side2 => exact HC0_0.out); (case side3 => exact Kd.C_below HR0_1.out (by repeat (first | (with_reducible first | exact HB.out | apply below_alloc | apply pw_below_drewN | apply below_drew1 | refine below_set ?_ GE146.out | refine below_set ?_ GE147.out | refine below_set ?_ GE150.out) | exact HB.out))); (case side4 => exact HC0_1.out); rintro e w90 ⟨v165, rfl, ho0, hb⟩; refine ⟨_, rfl, ?_⟩; have n0_ := Aside0.mk (Kd.R_below (by (with_reducible repeat (first | apply Kd.R_alloc | apply Kd.R_drewN | apply Kd.R_drew)); exact (Kd.R_mono (Kd.R_far (p := ⟨gb150, 1, none⟩) (Kd.R_types HO159.out BK150.out (by decide)) (fun _ hk => hk.2) (.slice Ao87 y160.length co87)) (fun _ h_ => h_.1))) hb); have n1_ := Aside0.mk (Kd.R_below (by (with_reducible repeat (first | apply Kd.R_alloc | apply Kd.R_drewN | apply Kd.R_drew)); exact (Kd.R_mono (Kd.R_far (p := ⟨gb150, 1, none⟩) (Kd.R_types HO162.out BK150.out (by decide)) (fun _ hk => hk.2) (.slice Ao87 y160.length co87)) (fun _ h_ => h_.1))) hb); have n2_ := Aside0.mk (Kd.R_lower ho0 (below_size (by repeat (first | (with_reducible first | exact HB.out | apply below_alloc | apply pw_below_drewN | apply below_drew1 | refine below_set ?_ GE146.out | refine below_set ?_ GE147.out | refine below_set ?_ GE150.out) | exact HB.out)))); have n3_ := Aside0.mk (blk_below (g := gb146) (o := .cells #[.slice A0_0 l0_0.length c0_0, .slice A0_1 l0_1.length c0_1, .bool a0_2, .string a0_3] 30 (0, 0)) (by (with_reducible repeat (first | refine blk_drewN ?_ _ | refine blk_drew ?_ | refine blk_alloc ?_ _)); refine blk_far ?_ NB146_150.out _; (with_reducible repeat (first | refine blk_drewN ?_ _ | refine blk_drew ?_ | refine blk_alloc ?_ _)); exact BK146.out) hb); have n4_ := Aside0.mk (blk_below (g := gb147) (o := .cells #[.string a1_0, .bool a1_1, .bool a1_2] 39 (0, 0)) (by (with_reducible repeat (first | refine blk_drewN ?_ _ | refine blk_drew ?_ | refine blk_alloc ?_ _)); refine blk_far ?_ NB147_150.out _; (with_reducible repeat (first | refine blk_drewN ?_ _ | refine blk_drew ?_ | refine blk_alloc ?_ _)); exact BK147.out) hb); have n5_ := Aside0.mk (blk_below (g := gb150) (o := .cells #[.slice A0_0 l0_0.length c0_0, .slice Ao87 y160.length co87, .bool a0_2, .string a0_3] 30 (0, 0)) (by (with_reducible repeat (first | refine blk_drewN ?_ _ | refine blk_drew ?_ | refine blk_alloc ?_ _)); refine blk_put (cs := #[.slice A0_0 l0_0.length c0_0, .slice A0_1 l0_1.length c0_1, .bool a0_2, .string a0_3]) ?_ 1 _ rfl; (with_reducible repeat (first | refine blk_drewN ?_ _ | refine blk_drew ?_ | refine blk_alloc ?_ _)); exact BK150.out) hb); have n6_ := Aside0.mk (below_step (by repeat (first | (with_reducible first | exact HB.out | apply below_alloc | apply pw_below_drewN | apply below_drew1 | refine below_set ?_ GE146.out | refine below_set ?_ GE147.out | refine below_set ?_ GE150.out) | exact HB.out)) hb); clear HO159; clear HO162; clear BK146; clear BK147; clear BK150; clear HB; have HO159 := n0_; have HO162 := n1_; have HO166 := n2_; have BK146 := n3_; have BK147 := n4_; have BK150 := n5_; have HB := n6_; clear n0_ n1_ n2_ n3_ n4_ n5_ n6_; (try clear hb); (try clear hb2); (try clear hk); (try clear hi); (try clear ho0)) | ((with_reducible refine gate_dst (N := 10) rfl ?_); (try (refine gate_guard (by rfl) ?_; dsimp only)); refine box_event ?hg (N := 10) ?hd (cs := #[.int .i64 0, .slice none 0 0, .string (⟨#[]⟩ : ByteArray)]) (t := 44) ?hr ?_; (case hd => rfl); (case hg => rfl); (case hr => first | (go_simp; done) | (go_simp; rfl)); intro gb168 hg w91 hbox hb; have n0_ := Aside0.mk (Kd.R_below (by (with_reducible repeat (first | apply Kd.R_alloc | apply Kd.R_drewN | apply Kd.R_drew)); exact HO159.out) hb); have n1_ := Aside0.mk (Kd.R_below (by (with_reducible repeat (first | apply Kd.R_alloc | apply Kd.R_drewN | apply Kd.R_drew)); exact HO162.out) hb); have n2_ := Aside0.mk (Kd.R_below (by (with_reducible repeat (first | apply Kd.R_alloc | apply Kd.R_drewN | apply Kd.R_drew)); exact HO166.out) hb); have n3_ := Aside0.mk (blk_below (g := gb146) (o := .cells #[.slice A0_0 l0_0.length c0_0, .slice A0_1 l0_1.length c0_1, .bool a0_2, .string a0_3] 30 (0, 0)) (by (with_reducible repeat (first | refine blk_drewN ?_ _ | refine blk_drew ?_ | refine blk_alloc ?_ _)); exact BK146.out) hb); have n4_ := Aside0.mk (blk_below (g := gb147) (o := .cells #[.string a1_0, .bool a1_1, .bool a1_2] 39 (0, 0)) (by (with_reducible repeat (first | refine blk_drewN ?_ _ | refine blk_drew ?_ | refine blk_alloc ?_ _)); exact BK147.out) hb); have n5_ := Aside0.mk (blk_below (g := gb150) (o := .cells #[.slice A0_0 l0_0.length c0_0, .slice Ao87 y160.length co87, .bool a0_2, .string a0_3] 30 (0, 0)) (by (with_reducible repeat (first | refine blk_drewN ?_ _ | refine blk_drew ?_ | refine blk_alloc ?_ _)); exact BK150.out) hb); have n6_ := Aside0.mk (below_step (by repeat (first | (with_reducible first | exact HB.out | apply below_alloc | apply pw_below_drewN | apply below_drew1 | refine below_set ?_ GE146.out | refine below_set ?_ GE147.out | refine below_set ?_ GE150.out) | exact HB.out)) hb); have n7_ := Aside0.mk (hbox); have n8_ := Aside0.mk ((by rw [hg]; exact (below_size (by repeat (first | (with_reducible first | exact HB.out | apply below_alloc | apply pw_below_drewN | apply below_drew1 | refine below_set ?_ GE146.out | refine below_set ?_ GE147.out | refine below_set ?_ GE150.out) | exact HB.out))) : w.heap.size ≤ gb168)); have n9_ := Aside0.mk ((by rw [hg]; exact (below_size (by repeat (first | (with_reducible first | exact HB.out | apply below_alloc | apply pw_below_drewN | apply below_drew1 | refine below_set ?_ GE146.out | refine below_set ?_ GE147.out | refine below_set ?_ GE150.out) | exact HB.out))) : w.heap.size ≤ gb168)); have n10_ := Aside0.mk ((by rw [hg]; exact Nat.ne_of_lt (blk_lt (g := gb146) (o := .cells #[.slice A0_0 l0_0.length c0_0, .slice A0_1 l0_1.length c0_1, .bool a0_2, .string a0_3] 30 (0, 0)) (by (with_reducible repeat (first | refine blk_drewN ?_ _ | refine blk_drew ?_ | refine blk_alloc ?_ _)); exact BK146.out)) : gb146 ≠ gb168)); have n11_ := Aside0.mk ((by rw [hg]; exact Nat.ne_of_gt (blk_lt (g := gb146) (o := .cells #[.slice A0_0 l0_0.length c0_0, .slice A0_1 l0_1.length c0_1, .bool a0_2, .string a0_3] 30 (0, 0)) (by (with_reducible repeat (first | refine blk_drewN ?_ _ | refine blk_drew ?_ | refine blk_alloc ?_ _)); exact BK146.out)) : gb168 ≠ gb146)); have n12_ := Aside0.mk ((by rw [hg]; exact Nat.ne_of_lt (blk_lt (g := gb147) (o := .cells #[.string a1_0, .bool a1_1, .bool a1_2] 39 (0, 0)) (by (with_reducible repeat (first | refine blk_drewN ?_ _ | refine blk_drew ?_ | refine blk_alloc ?_ _)); exact BK147.out)) : gb147 ≠ gb168)); have n13_ := Aside0.mk ((by rw [hg]; exact Nat.ne_of_gt (blk_lt (g := gb147) (o := .cells #[.string a1_0, .bool a1_1, .bool a1_2] 39 (0, 0)) (by (with_reducible repeat (first | refine blk_drewN ?_ _ | refine blk_drew ?_ | refine blk_alloc ?_ _)); exact BK147.out)) : gb168 ≠ gb147)); have n14_ := Aside0.mk ((by rw [hg]; exact Nat.ne_of_lt (blk_lt (g := gb150) (o := .cells #[.slice A0_0 l0_0.length c0_0, .slice Ao87 y160.length co87, .bool a0_2, .string a0_3] 30 (0, 0)) (by (with_reducible repeat (first | refine blk_drewN ?_ _ | refine blk_drew ?_ | refine blk_alloc ?_ _)); exact BK150.out)) : gb150 ≠ gb168)); have n15_ := Aside0.mk ((by rw [hg]; exact Nat.ne_of_gt (blk_lt (g := gb150) (o := .cells #[.slice A0_0 l0_0.length c0_0, .slice Ao87 y160.length co87, .bool a0_2, .string a0_3] 30 (0, 0)) (by (with_reducible repeat (first | refine blk_drewN ?_ _ | refine blk_drew ?_ | refine blk_alloc ?_ _)); exact BK150.out)) : gb168 ≠ gb150)); clear HO159; clear HO162; clear HO166; clear BK146; clear BK147; clear BK150; clear HB; have HO159 := n0_; have HO162 := n1_; have HO166 := n2_; have BK146 := n3_; have BK147 := n4_; have BK150 := n5_; have HB := n6_; have BK168 := n7_; have GW168 := n8_; have GE168 := n9_; have NB146_168 := n10_; have NB168_146 := n11_; have NB147_168 := n12_; have NB168_147 := n13_; have NB150_168 := n14_; have NB168_150 := n15_; clear n0_ n1_ n2_ n3_ n4_ n5_ n6_ n7_ n8_ n9_ n10_ n11_ n12_ n13_ n14_ n15_; clear hb hbox hg; have hnb92 := NB168_146.out; have hnc92 := NB146_168.out; have hnb93 := NB168_147.out; have hnc93 := NB147_168.out; have hnb94 := NB168_150.out; have hnc94 := NB150_168.out; have hcz95_0 : w91.cell? ⟨gb168, 0, none⟩ = some (.int .i64 0) := (blk_cell BK168.out 0).trans rfl; have hcz95_1 : w91.cell? ⟨gb168, 1, none⟩ = some (.slice none 0 0) := (blk_cell BK168.out 1).trans rfl; have hcz95_2 : w91.cell? ⟨gb168, 2, none⟩ = some (.string (⟨#[]⟩ : ByteArray)) := (blk_cell BK168.out 2).trans rfl; have hfz95_0 := blk_frozen BK168.out 0; have hfz95_1 := blk_frozen BK168.out 1; have hfz95_2 := blk_frozen BK168.out 2; obtain ⟨Ao96, co96, eo96⟩ := Kd.R_slice HO166.out; subst eo96; have hcz97_0 : w91.cell? ⟨gb150, 0, none⟩ = some (.slice A0_0 l0_0.length c0_0) := (blk_cell BK150.out 0).trans rfl; have hcz97_1 : w91.cell? ⟨gb150, 1, none⟩ = some (.slice Ao87 y160.length co87) := (blk_cell BK150.out 1).trans rfl; have hcz97_2 : w91.cell? ⟨gb150, 2, none⟩ = some (.bool a0_2) := (blk_cell BK150.out 2).trans rfl; have hcz97_3 : w91.cell? ⟨gb150, 3, none⟩ = some (.string a0_3) := (blk_cell BK150.out 3).trans rfl; have hfz97_0 := blk_frozen BK150.out 0; have hfz97_1 := blk_frozen BK150.out 1; have hfz97_2 := blk_frozen BK150.out 2; have hfz97_3 := blk_frozen BK150.out 3) | ((with_reducible refine gate_callee (f := 28) rfl ?_); refine goesL_ (some 47) rfl rfl Tryd.func28 (by kernel_rfl) rfl #[.agg #[.slice A0_0 l0_0.length c0_0, .slice Ao87 y160.length co87, .bool a0_2, .string a0_3], .string a2, .string a3] rfl (by (try simp only [List.map_toArray, List.map_cons, List.map_nil]); first | done | rfl | (simp only [List.length_drop, List.length_take]; rfl)) ?_; (with_reducible refine (decide_By.calls kj4 _ _ l0_0 _ _ y160 a0_2 a0_3 a2 a3 t169 t170 t173 _ ?side1 ?side2 ?side3 ?side4 A28.out ?sideL).mono ?_); (case sideL => first | exact HL.out.below (by repeat (first | (with_reducible first | exact HB.out | apply below_alloc | apply pw_below_drewN | apply below_drew1 | refine below_set ?_ GE150.out | refine below_set ?_ GE168.out | refine below_set ?_ GE146.out) | exact HB.out)) | exact (HL.out.below (by repeat (first | (with_reducible first | exact HB.out | apply below_alloc | apply pw_below_drewN | apply below_drew1 | refine below_set ?_ GE150.out | refine below_set ?_ GE168.out | refine below_set ?_ GE146.out) | exact HB.out))).1 | exact (HL.out.below (by repeat (first | (with_reducible first | exact HB.out | apply below_alloc | apply pw_below_drewN | apply below_drew1 | refine below_set ?_ GE150.out | refine below_set ?_ GE168.out | refine below_set ?_ GE146.out) | exact HB.out))).2); (case side1 => exact Kd.C_below HR0_0.out (by repeat (first | (with_reducible first | exact HB.out | apply below_alloc | apply pw_below_drewN | apply below_drew1 | refine below_set ?_ GE146.out | refine below_set ?_ GE147.out | refine below_set ?_ GE150.out | refine below_set ?_ GE168.out) | exact HB.out))); (case side2 => exact HC0_0.out); (case side3 => refine (Kd.R_reads' (e := 39) (base := w.heap.size) (ok := fun k_ => (some k_ ≠ (.slice Ao86 y157.length co86 : Value).ownBlock ∧ k_ ≠ gb147)) (n := y160.length) (c := co87) ?_).2.2; exact (by (with_reducible repeat (first | apply Kd.R_alloc | apply Kd.R_drewN | apply Kd.R_drew)); exact (Kd.R_mono (Kd.R_far (p := ⟨gb168, 2, none⟩) (Kd.R_far (p := ⟨gb168, 1, none⟩) (Kd.R_far (p := ⟨gb168, 0, none⟩) (Kd.R_types HO162.out BK168.out (by decide)) (fun _ hk => hk.2) (.int .i64 t163)) (fun _ hk => hk.2) (.slice Ao96 t164.length co96)) (fun _ hk => hk.2) (.string t167)) (fun _ h_ => h_.1)))); (case side4 => exact (Kd.R_reads' HO162.out).2.1); rintro e w98 ⟨v171, rfl, ho0, hb⟩; refine ⟨_, rfl, ?_⟩; have n0_ := Aside0.mk (Kd.R_below (by (with_reducible repeat (first | apply Kd.R_alloc | apply Kd.R_drewN | apply Kd.R_drew)); exact (Kd.R_mono (Kd.R_far (p := ⟨gb168, 2, none⟩) (Kd.R_far (p := ⟨gb168, 1, none⟩) (Kd.R_far (p := ⟨gb168, 0, none⟩) (Kd.R_types HO159.out BK168.out (by decide)) (fun _ hk => hk.2) (.int .i64 t163)) (fun _ hk => hk.2) (.slice Ao96 t164.length co96)) (fun _ hk => hk.2) (.string t167)) (fun _ h_ => h_.1))) hb); have n1_ := Aside0.mk (Kd.R_below (by (with_reducible repeat (first | apply Kd.R_alloc | apply Kd.R_drewN | apply Kd.R_drew)); exact (Kd.R_mono (Kd.R_far (p := ⟨gb168, 2, none⟩) (Kd.R_far (p := ⟨gb168, 1, none⟩) (Kd.R_far (p := ⟨gb168, 0, none⟩) (Kd.R_types HO162.out BK168.out (by decide)) (fun _ hk => hk.2) (.int .i64 t163)) (fun _ hk => hk.2) (.slice Ao96 t164.length co96)) (fun _ hk => hk.2) (.string t167)) (fun _ h_ => h_.1))) hb); have n2_ := Aside0.mk (Kd.R_elder' (by (with_reducible repeat (first | apply Kd.R_alloc | apply Kd.R_drewN | apply Kd.R_drew)); exact (Kd.R_mono (Kd.R_far (p := ⟨gb168, 2, none⟩) (Kd.R_far (p := ⟨gb168, 1, none⟩) (Kd.R_far (p := ⟨gb168, 0, none⟩) (Kd.R_types HO166.out BK168.out (by decide)) (fun _ hk => hk.2) (.int .i64 t163)) (fun _ hk => hk.2) (.slice Ao96 t164.length co96)) (fun _ hk => hk.2) (.string t167)) (fun _ h_ => h_.1))) (Kd.R_base ho0) hb); have n3_ := Aside0.mk (Kd.R_lower (Kd.R_new' ho0 (Kd.R_lt (by (with_reducible repeat (first | apply Kd.R_alloc | apply Kd.R_drewN | apply Kd.R_drew)); exact (Kd.R_mono (Kd.R_far (p := ⟨gb168, 2, none⟩) (Kd.R_far (p := ⟨gb168, 1, none⟩) (Kd.R_far (p := ⟨gb168, 0, none⟩) (Kd.R_types HO166.out BK168.out (by decide)) (fun _ hk => hk.2) (.int .i64 t163)) (fun _ hk => hk.2) (.slice Ao96 t164.length co96)) (fun _ hk => hk.2) (.string t167)) (fun _ h_ => h_.1))))) (below_size (by repeat (first | (with_reducible first | exact HB.out | apply below_alloc | apply pw_below_drewN | apply below_drew1 | refine below_set ?_ GE146.out | refine below_set ?_ GE147.out | refine below_set ?_ GE150.out | refine below_set ?_ GE168.out) | exact HB.out)))); have n4_ := Aside0.mk (blk_below (g := gb146) (o := .cells #[.slice A0_0 l0_0.length c0_0, .slice A0_1 l0_1.length c0_1, .bool a0_2, .string a0_3] 30 (0, 0)) (by (with_reducible repeat (first | refine blk_drewN ?_ _ | refine blk_drew ?_ | refine blk_alloc ?_ _)); refine blk_far ?_ NB146_168.out _; (with_reducible repeat (first | refine blk_drewN ?_ _ | refine blk_drew ?_ | refine blk_alloc ?_ _)); refine blk_far ?_ NB146_168.out _; (with_reducible repeat (first | refine blk_drewN ?_ _ | refine blk_drew ?_ | refine blk_alloc ?_ _)); refine blk_far ?_ NB146_168.out _; (with_reducible repeat (first | refine blk_drewN ?_ _ | refine blk_drew ?_ | refine blk_alloc ?_ _)); exact BK146.out) hb); have n5_ := Aside0.mk (blk_below (g := gb147) (o := .cells #[.string a1_0, .bool a1_1, .bool a1_2] 39 (0, 0)) (by (with_reducible repeat (first | refine blk_drewN ?_ _ | refine blk_drew ?_ | refine blk_alloc ?_ _)); refine blk_far ?_ NB147_168.out _; (with_reducible repeat (first | refine blk_drewN ?_ _ | refine blk_drew ?_ | refine blk_alloc ?_ _)); refine blk_far ?_ NB147_168.out _; (with_reducible repeat (first | refine blk_drewN ?_ _ | refine blk_drew ?_ | refine blk_alloc ?_ _)); refine blk_far ?_ NB147_168.out _; (with_reducible repeat (first | refine blk_drewN ?_ _ | refine blk_drew ?_ | refine blk_alloc ?_ _)); exact BK147.out) hb); have n6_ := Aside0.mk (blk_below (g := gb150) (o := .cells #[.slice A0_0 l0_0.length c0_0, .slice Ao87 y160.length co87, .bool a0_2, .string a0_3] 30 (0, 0)) (by (with_reducible repeat (first | refine blk_drewN ?_ _ | refine blk_drew ?_ | refine blk_alloc ?_ _)); refine blk_far ?_ NB150_168.out _; (with_reducible repeat (first | refine blk_drewN ?_ _ | refine blk_drew ?_ | refine blk_alloc ?_ _)); refine blk_far ?_ NB150_168.out _; (with_reducible repeat (first | refine blk_drewN ?_ _ | refine blk_drew ?_ | refine blk_alloc ?_ _)); refine blk_far ?_ NB150_168.out _; (with_reducible repeat (first | refine blk_drewN ?_ _ | refine blk_drew ?_ | refine blk_alloc ?_ _)); exact BK150.out) hb); have n7_ := Aside0.mk (blk_below (g := gb168) (o := .cells #[.int .i64 t163, .slice Ao96 t164.length co96, .string t167] 44 (0, 0)) (by (with_reducible repeat (first | refine blk_drewN ?_ _ | refine blk_drew ?_ | refine blk_alloc ?_ _)); refine blk_put (cs := #[.int .i64 t163, .slice Ao96 t164.length co96, .string (⟨#[]⟩ : ByteArray)]) ?_ 2 _ rfl; (with_reducible repeat (first | refine blk_drewN ?_ _ | refine blk_drew ?_ | refine blk_alloc ?_ _)); refine blk_put (cs := #[.int .i64 t163, .slice none 0 0, .string (⟨#[]⟩ : ByteArray)]) ?_ 1 _ rfl; (with_reducible repeat (first | refine blk_drewN ?_ _ | refine blk_drew ?_ | refine blk_alloc ?_ _)); refine blk_put (cs := #[.int .i64 0, .slice none 0 0, .string (⟨#[]⟩ : ByteArray)]) ?_ 0 _ rfl; (with_reducible repeat (first | refine blk_drewN ?_ _ | refine blk_drew ?_ | refine blk_alloc ?_ _)); exact BK168.out) hb); have n8_ := Aside0.mk (below_step (by repeat (first | (with_reducible first | exact HB.out | apply below_alloc | apply pw_below_drewN | apply below_drew1 | refine below_set ?_ GE146.out | refine below_set ?_ GE147.out | refine below_set ?_ GE150.out | refine below_set ?_ GE168.out) | exact HB.out)) hb); clear HO159; clear HO162; clear HO166; clear BK146; clear BK147; clear BK150; clear BK168; clear HB; have HO159 := n0_; have HO162 := n1_; have HO166 := n2_; have HO172 := n3_; have BK146 := n4_; have BK147 := n5_; have BK150 := n6_; have BK168 := n7_; have HB := n8_; clear n0_ n1_ n2_ n3_ n4_ n5_ n6_ n7_ n8_; (try clear hb); (try clear hb2); (try clear hk); (try clear hi); (try clear ho0)) | ((with_reducible refine gate_dst (N := 11) rfl ?_); (try (refine gate_guard (by rfl) ?_; dsimp only)); refine box_event ?hg (N := 11) ?hd (cs := #[.int .i64 0, .slice none 0 0, .string (⟨#[]⟩ : ByteArray)]) (t := 44) ?hr ?_; (case hd => rfl); (case hg => rfl); (case hr => first | (go_simp; done) | (go_simp; rfl)); intro gb174 hg w99 hbox hb; have n0_ := Aside0.mk (Kd.R_below (by (with_reducible repeat (first | apply Kd.R_alloc | apply Kd.R_drewN | apply Kd.R_drew)); exact HO159.out) hb); have n1_ := Aside0.mk (Kd.R_below (by (with_reducible repeat (first | apply Kd.R_alloc | apply Kd.R_drewN | apply Kd.R_drew)); exact HO162.out) hb); have n2_ := Aside0.mk (Kd.R_below (by (with_reducible repeat (first | apply Kd.R_alloc | apply Kd.R_drewN | apply Kd.R_drew)); exact HO166.out) hb); have n3_ := Aside0.mk (Kd.R_below (by (with_reducible repeat (first | apply Kd.R_alloc | apply Kd.R_drewN | apply Kd.R_drew)); exact HO172.out) hb); have n4_ := Aside0.mk (blk_below (g := gb146) (o := .cells #[.slice A0_0 l0_0.length c0_0, .slice A0_1 l0_1.length c0_1, .bool a0_2, .string a0_3] 30 (0, 0)) (by (with_reducible repeat (first | refine blk_drewN ?_ _ | refine blk_drew ?_ | refine blk_alloc ?_ _)); exact BK146.out) hb); have n5_ := Aside0.mk (blk_below (g := gb147) (o := .cells #[.string a1_0, .bool a1_1, .bool a1_2] 39 (0, 0)) (by (with_reducible repeat (first | refine blk_drewN ?_ _ | refine blk_drew ?_ | refine blk_alloc ?_ _)); exact BK147.out) hb); have n6_ := Aside0.mk (blk_below (g := gb150) (o := .cells #[.slice A0_0 l0_0.length c0_0, .slice Ao87 y160.length co87, .bool a0_2, .string a0_3] 30 (0, 0)) (by (with_reducible repeat (first | refine blk_drewN ?_ _ | refine blk_drew ?_ | refine blk_alloc ?_ _)); exact BK150.out) hb); have n7_ := Aside0.mk (blk_below (g := gb168) (o := .cells #[.int .i64 t163, .slice Ao96 t164.length co96, .string t167] 44 (0, 0)) (by (with_reducible repeat (first | refine blk_drewN ?_ _ | refine blk_drew ?_ | refine blk_alloc ?_ _)); exact BK168.out) hb); have n8_ := Aside0.mk (below_step (by repeat (first | (with_reducible first | exact HB.out | apply below_alloc | apply pw_below_drewN | apply below_drew1 | refine below_set ?_ GE146.out | refine below_set ?_ GE147.out | refine below_set ?_ GE150.out | refine below_set ?_ GE168.out) | exact HB.out)) hb); have n9_ := Aside0.mk (hbox); have n10_ := Aside0.mk ((by rw [hg]; exact (below_size (by repeat (first | (with_reducible first | exact HB.out | apply below_alloc | apply pw_below_drewN | apply below_drew1 | refine below_set ?_ GE146.out | refine below_set ?_ GE147.out | refine below_set ?_ GE150.out | refine below_set ?_ GE168.out) | exact HB.out))) : w.heap.size ≤ gb174)); have n11_ := Aside0.mk ((by rw [hg]; exact (below_size (by repeat (first | (with_reducible first | exact HB.out | apply below_alloc | apply pw_below_drewN | apply below_drew1 | refine below_set ?_ GE146.out | refine below_set ?_ GE147.out | refine below_set ?_ GE150.out | refine below_set ?_ GE168.out) | exact HB.out))) : w.heap.size ≤ gb174)); have n12_ := Aside0.mk ((by rw [hg]; exact Nat.ne_of_lt (blk_lt (g := gb146) (o := .cells #[.slice A0_0 l0_0.length c0_0, .slice A0_1 l0_1.length c0_1, .bool a0_2, .string a0_3] 30 (0, 0)) (by (with_reducible repeat (first | refine blk_drewN ?_ _ | refine blk_drew ?_ | refine blk_alloc ?_ _)); exact BK146.out)) : gb146 ≠ gb174)); have n13_ := Aside0.mk ((by rw [hg]; exact Nat.ne_of_gt (blk_lt (g := gb146) (o := .cells #[.slice A0_0 l0_0.length c0_0, .slice A0_1 l0_1.length c0_1, .bool a0_2, .string a0_3] 30 (0, 0)) (by (with_reducible repeat (first | refine blk_drewN ?_ _ | refine blk_drew ?_ | refine blk_alloc ?_ _)); exact BK146.out)) : gb174 ≠ gb146)); have n14_ := Aside0.mk ((by rw [hg]; exact Nat.ne_of_lt (blk_lt (g := gb147) (o := .cells #[.string a1_0, .bool a1_1, .bool a1_2] 39 (0, 0)) (by (with_reducible repeat (first | refine blk_drewN ?_ _ | refine blk_drew ?_ | refine blk_alloc ?_ _)); exact BK147.out)) : gb147 ≠ gb174)); have n15_ := Aside0.mk ((by rw [hg]; exact Nat.ne_of_gt (blk_lt (g := gb147) (o := .cells #[.string a1_0, .bool a1_1, .bool a1_2] 39 (0, 0)) (by (with_reducible repeat (first | refine blk_drewN ?_ _ | refine blk_drew ?_ | refine blk_alloc ?_ _)); exact BK147.out)) : gb174 ≠ gb147)); have n16_ := Aside0.mk ((by rw [hg]; exact Nat.ne_of_lt (blk_lt (g := gb150) (o := .cells #[.slice A0_0 l0_0.length c0_0, .slice Ao87 y160.length co87, .bool a0_2, .string a0_3] 30 (0, 0)) (by (with_reducible repeat (first | refine blk_drewN ?_ _ | refine blk_drew ?_ | refine blk_alloc ?_ _)); exact BK150.out)) : gb150 ≠ gb174)); have n17_ := Aside0.mk ((by rw [hg]; exact Nat.ne_of_gt (blk_lt (g := gb150) (o := .cells #[.slice A0_0 l0_0.length c0_0, .slice Ao87 y160.length co87, .bool a0_2, .string a0_3] 30 (0, 0)) (by (with_reducible repeat (first | refine blk_drewN ?_ _ | refine blk_drew ?_ | refine blk_alloc ?_ _)); exact BK150.out)) : gb174 ≠ gb150)); have n18_ := Aside0.mk ((by rw [hg]; exact Nat.ne_of_lt (blk_lt (g := gb168) (o := .cells #[.int .i64 t163, .slice Ao96 t164.length co96, .string t167] 44 (0, 0)) (by (with_reducible repeat (first | refine blk_drewN ?_ _ | refine blk_drew ?_ | refine blk_alloc ?_ _)); exact BK168.out)) : gb168 ≠ gb174)); have n19_ := Aside0.mk ((by rw [hg]; exact Nat.ne_of_gt (blk_lt (g := gb168) (o := .cells #[.int .i64 t163, .slice Ao96 t164.length co96, .string t167] 44 (0, 0)) (by (with_reducible repeat (first | refine blk_drewN ?_ _ | refine blk_drew ?_ | refine blk_alloc ?_ _)); exact BK168.out)) : gb174 ≠ gb168)); clear HO159; clear HO162; clear HO166; clear HO172; clear BK146; clear BK147; clear BK150; clear BK168; clear HB; have HO159 := n0_; have HO162 := n1_; have HO166 := n2_; have HO172 := n3_; have BK146 := n4_; have BK147 := n5_; have BK150 := n6_; have BK168 := n7_; have HB := n8_; have BK174 := n9_; have GW174 := n10_; have GE174 := n11_; have NB146_174 := n12_; have NB174_146 := n13_; have NB147_174 := n14_; have NB174_147 := n15_; have NB150_174 := n16_; have NB174_150 := n17_; have NB168_174 := n18_; have NB174_168 := n19_; clear n0_ n1_ n2_ n3_ n4_ n5_ n6_ n7_ n8_ n9_ n10_ n11_ n12_ n13_ n14_ n15_ n16_ n17_ n18_ n19_; clear hb hbox hg; have hnb100 := NB174_146.out; have hnc100 := NB146_174.out; have hnb101 := NB174_147.out; have hnc101 := NB147_174.out; have hnb102 := NB174_150.out; have hnc102 := NB150_174.out; have hnb103 := NB174_168.out; have hnc103 := NB168_174.out; have hcz104_0 : w99.cell? ⟨gb174, 0, none⟩ = some (.int .i64 0) := (blk_cell BK174.out 0).trans rfl; have hcz104_1 : w99.cell? ⟨gb174, 1, none⟩ = some (.slice none 0 0) := (blk_cell BK174.out 1).trans rfl; have hcz104_2 : w99.cell? ⟨gb174, 2, none⟩ = some (.string (⟨#[]⟩ : ByteArray)) := (blk_cell BK174.out 2).trans rfl; have hfz104_0 := blk_frozen BK174.out 0; have hfz104_1 := blk_frozen BK174.out 1; have hfz104_2 := blk_frozen BK174.out 2; obtain ⟨Ao105, co105, eo105⟩ := Kd.R_slice HO172.out; subst eo105))
                  have n0_ : Aside0 (Kd.R k39 39 (((w99.setCell ⟨gb174, 0, none⟩ (.int .i64 t169)).setCell ⟨gb174, 1, none⟩ (.slice Ao105 t170.length co105)).setCell ⟨gb174, 2, none⟩ (.string t173)) w.heap.size (fun k_ => some k_ ≠ (.slice Ao87 y160.length co87 : Value).ownBlock ∧ k_ ≠ gb147) (.slice Ao86 y157.length co86) y157) := ⟨by (with_reducible repeat (first | apply Kd.R_alloc | apply Kd.R_drewN | apply Kd.R_drew)); exact Kd.R_mono (Kd.R_far (p := ⟨gb174, 2, none⟩) (Kd.R_far (p := ⟨gb174, 1, none⟩) (Kd.R_far (p := ⟨gb174, 0, none⟩) (Kd.R_types HO159.out BK174.out (by decide)) (fun _ hk => hk.2) (.int .i64 t169)) (fun _ hk => hk.2) (.slice Ao105 t170.length co105)) (fun _ hk => hk.2) (.string t173)) (fun _ hk => ⟨hk.1.2, hk.1.1⟩)⟩
                  have n1_ : Aside0 (Kd.R k39 39 (((w99.setCell ⟨gb174, 0, none⟩ (.int .i64 t169)).setCell ⟨gb174, 1, none⟩ (.slice Ao105 t170.length co105)).setCell ⟨gb174, 2, none⟩ (.string t173)) w.heap.size (fun k_ => some k_ ≠ (.slice Ao86 y157.length co86 : Value).ownBlock ∧ k_ ≠ gb147) (.slice Ao87 y160.length co87) y160) := ⟨by (with_reducible repeat (first | apply Kd.R_alloc | apply Kd.R_drewN | apply Kd.R_drew)); exact Kd.R_mono (Kd.R_far (p := ⟨gb174, 2, none⟩) (Kd.R_far (p := ⟨gb174, 1, none⟩) (Kd.R_far (p := ⟨gb174, 0, none⟩) (Kd.R_types HO162.out BK174.out (by decide)) (fun _ hk => hk.2) (.int .i64 t169)) (fun _ hk => hk.2) (.slice Ao105 t170.length co105)) (fun _ hk => hk.2) (.string t173)) (fun _ hk => ⟨hk.1.1, hk.1.2⟩)⟩
                  have n2_ : Aside0 (Kd.R Kd.string 9 (((w99.setCell ⟨gb174, 0, none⟩ (.int .i64 t169)).setCell ⟨gb174, 1, none⟩ (.slice Ao105 t170.length co105)).setCell ⟨gb174, 2, none⟩ (.string t173)) w.heap.size (fun k_ => some k_ ≠ (.slice Ao105 t170.length co105 : Value).ownBlock) (.slice Ao96 t164.length co96) t164) := ⟨by (with_reducible repeat (first | apply Kd.R_alloc | apply Kd.R_drewN | apply Kd.R_drew)); exact Kd.R_mono (Kd.R_far (p := ⟨gb174, 2, none⟩) (Kd.R_far (p := ⟨gb174, 1, none⟩) (Kd.R_far (p := ⟨gb174, 0, none⟩) (Kd.R_types HO166.out BK174.out (by decide)) (fun _ hk => hk.2) (.int .i64 t169)) (fun _ hk => hk.2) (.slice Ao105 t170.length co105)) (fun _ hk => hk.2) (.string t173)) (fun _ hk => hk.1.2)⟩
                  have n3_ : Aside0 (Kd.R Kd.string 9 (((w99.setCell ⟨gb174, 0, none⟩ (.int .i64 t169)).setCell ⟨gb174, 1, none⟩ (.slice Ao105 t170.length co105)).setCell ⟨gb174, 2, none⟩ (.string t173)) w.heap.size (fun k_ => some k_ ≠ (.slice Ao96 t164.length co96 : Value).ownBlock) (.slice Ao105 t170.length co105) t170) := ⟨by (with_reducible repeat (first | apply Kd.R_alloc | apply Kd.R_drewN | apply Kd.R_drew)); exact Kd.R_mono (Kd.R_far (p := ⟨gb174, 2, none⟩) (Kd.R_far (p := ⟨gb174, 1, none⟩) (Kd.R_far (p := ⟨gb174, 0, none⟩) (Kd.R_types HO172.out BK174.out (by decide)) (fun _ hk => hk.2) (.int .i64 t169)) (fun _ hk => hk.2) (.slice Ao105 t170.length co105)) (fun _ hk => hk.2) (.string t173)) (fun _ hk => hk.1.2)⟩
                  have n4_ : Aside0 ((((w99.setCell ⟨gb174, 0, none⟩ (.int .i64 t169)).setCell ⟨gb174, 1, none⟩ (.slice Ao105 t170.length co105)).setCell ⟨gb174, 2, none⟩ (.string t173)).heap[gb146]? = some (.cells #[.slice A0_0 l0_0.length c0_0, .slice A0_1 l0_1.length c0_1, .bool a0_2, .string a0_3] 30 (0, 0))) := ⟨by (with_reducible repeat (first | refine blk_drewN ?_ _ | refine blk_drew ?_ | refine blk_alloc ?_ _)); refine blk_far ?_ NB146_174.out _; (with_reducible repeat (first | refine blk_drewN ?_ _ | refine blk_drew ?_ | refine blk_alloc ?_ _)); refine blk_far ?_ NB146_174.out _; (with_reducible repeat (first | refine blk_drewN ?_ _ | refine blk_drew ?_ | refine blk_alloc ?_ _)); refine blk_far ?_ NB146_174.out _; (with_reducible repeat (first | refine blk_drewN ?_ _ | refine blk_drew ?_ | refine blk_alloc ?_ _)); exact BK146.out⟩
                  have n5_ : Aside0 ((((w99.setCell ⟨gb174, 0, none⟩ (.int .i64 t169)).setCell ⟨gb174, 1, none⟩ (.slice Ao105 t170.length co105)).setCell ⟨gb174, 2, none⟩ (.string t173)).heap[gb147]? = some (.cells #[.string a1_0, .bool a1_1, .bool a1_2] 39 (0, 0))) := ⟨by (with_reducible repeat (first | refine blk_drewN ?_ _ | refine blk_drew ?_ | refine blk_alloc ?_ _)); refine blk_far ?_ NB147_174.out _; (with_reducible repeat (first | refine blk_drewN ?_ _ | refine blk_drew ?_ | refine blk_alloc ?_ _)); refine blk_far ?_ NB147_174.out _; (with_reducible repeat (first | refine blk_drewN ?_ _ | refine blk_drew ?_ | refine blk_alloc ?_ _)); refine blk_far ?_ NB147_174.out _; (with_reducible repeat (first | refine blk_drewN ?_ _ | refine blk_drew ?_ | refine blk_alloc ?_ _)); exact BK147.out⟩
                  have n6_ : Aside0 ((((w99.setCell ⟨gb174, 0, none⟩ (.int .i64 t169)).setCell ⟨gb174, 1, none⟩ (.slice Ao105 t170.length co105)).setCell ⟨gb174, 2, none⟩ (.string t173)).heap[gb150]? = some (.cells #[.slice A0_0 l0_0.length c0_0, .slice Ao87 y160.length co87, .bool a0_2, .string a0_3] 30 (0, 0))) := ⟨by (with_reducible repeat (first | refine blk_drewN ?_ _ | refine blk_drew ?_ | refine blk_alloc ?_ _)); refine blk_far ?_ NB150_174.out _; (with_reducible repeat (first | refine blk_drewN ?_ _ | refine blk_drew ?_ | refine blk_alloc ?_ _)); refine blk_far ?_ NB150_174.out _; (with_reducible repeat (first | refine blk_drewN ?_ _ | refine blk_drew ?_ | refine blk_alloc ?_ _)); refine blk_far ?_ NB150_174.out _; (with_reducible repeat (first | refine blk_drewN ?_ _ | refine blk_drew ?_ | refine blk_alloc ?_ _)); exact BK150.out⟩
                  have n7_ : Aside0 ((((w99.setCell ⟨gb174, 0, none⟩ (.int .i64 t169)).setCell ⟨gb174, 1, none⟩ (.slice Ao105 t170.length co105)).setCell ⟨gb174, 2, none⟩ (.string t173)).heap[gb168]? = some (.cells #[.int .i64 t163, .slice Ao96 t164.length co96, .string t167] 44 (0, 0))) := ⟨by (with_reducible repeat (first | refine blk_drewN ?_ _ | refine blk_drew ?_ | refine blk_alloc ?_ _)); refine blk_far ?_ NB168_174.out _; (with_reducible repeat (first | refine blk_drewN ?_ _ | refine blk_drew ?_ | refine blk_alloc ?_ _)); refine blk_far ?_ NB168_174.out _; (with_reducible repeat (first | refine blk_drewN ?_ _ | refine blk_drew ?_ | refine blk_alloc ?_ _)); refine blk_far ?_ NB168_174.out _; (with_reducible repeat (first | refine blk_drewN ?_ _ | refine blk_drew ?_ | refine blk_alloc ?_ _)); exact BK168.out⟩
                  have n8_ : Aside0 ((((w99.setCell ⟨gb174, 0, none⟩ (.int .i64 t169)).setCell ⟨gb174, 1, none⟩ (.slice Ao105 t170.length co105)).setCell ⟨gb174, 2, none⟩ (.string t173)).heap[gb174]? = some (.cells #[.int .i64 t169, .slice Ao105 t170.length co105, .string t173] 44 (0, 0))) := ⟨by (with_reducible repeat (first | refine blk_drewN ?_ _ | refine blk_drew ?_ | refine blk_alloc ?_ _)); refine blk_put (cs := #[.int .i64 t169, .slice Ao105 t170.length co105, .string (⟨#[]⟩ : ByteArray)]) ?_ 2 _ rfl; (with_reducible repeat (first | refine blk_drewN ?_ _ | refine blk_drew ?_ | refine blk_alloc ?_ _)); refine blk_put (cs := #[.int .i64 t169, .slice none 0 0, .string (⟨#[]⟩ : ByteArray)]) ?_ 1 _ rfl; (with_reducible repeat (first | refine blk_drewN ?_ _ | refine blk_drew ?_ | refine blk_alloc ?_ _)); refine blk_put (cs := #[.int .i64 0, .slice none 0 0, .string (⟨#[]⟩ : ByteArray)]) ?_ 0 _ rfl; (with_reducible repeat (first | refine blk_drewN ?_ _ | refine blk_drew ?_ | refine blk_alloc ?_ _)); exact BK174.out⟩
                  have n9_ : Aside0 (Below w.heap.size w (((w99.setCell ⟨gb174, 0, none⟩ (.int .i64 t169)).setCell ⟨gb174, 1, none⟩ (.slice Ao105 t170.length co105)).setCell ⟨gb174, 2, none⟩ (.string t173))) := ⟨by repeat (first | (with_reducible first | exact HB.out | apply below_alloc | apply pw_below_drewN | apply below_drew1 | refine below_set ?_ GE146.out | refine below_set ?_ GE147.out | refine below_set ?_ GE150.out | refine below_set ?_ GE168.out | refine below_set ?_ GE174.out) | exact HB.out)⟩
                  (try clear HO159)
                  (try clear HO162)
                  (try clear HO166)
                  (try clear HO172)
                  (try clear BK146)
                  (try clear BK147)
                  (try clear BK150)
                  (try clear BK168)
                  (try clear BK174)
                  (try clear HB)
                  generalize (((w99.setCell ⟨gb174, 0, none⟩ (.int .i64 t169)).setCell ⟨gb174, 1, none⟩ (.slice Ao105 t170.length co105)).setCell ⟨gb174, 2, none⟩ (.string t173)) = w106 at n0_ n1_ n2_ n3_ n4_ n5_ n6_ n7_ n8_ n9_ ⊢
                  have HO159 := n0_
                  have HO162 := n1_
                  have HO166 := n2_
                  have HO172 := n3_
                  have BK146 := n4_
                  have BK147 := n5_
                  have BK150 := n6_
                  have BK168 := n7_
                  have BK174 := n8_
                  have HB := n9_
                  clear n0_ n1_ n2_ n3_ n4_ n5_ n6_ n7_ n8_ n9_
                  have n0_ := Aside0.mk (Kd.R_drew HO159.out)
                  have n1_ := Aside0.mk (Kd.R_drew HO162.out)
                  have n2_ := Aside0.mk (Kd.R_drew HO166.out)
                  have n3_ := Aside0.mk (Kd.R_drew HO172.out)
                  have n4_ := Aside0.mk (blk_drew BK146.out)
                  have n5_ := Aside0.mk (blk_drew BK147.out)
                  have n6_ := Aside0.mk (blk_drew BK150.out)
                  have n7_ := Aside0.mk (blk_drew BK168.out)
                  have n8_ := Aside0.mk (blk_drew BK174.out)
                  have n9_ := Aside0.mk (below_drew1 HB.out)
                  clear HO159
                  clear HO162
                  clear HO166
                  clear HO172
                  clear BK146
                  clear BK147
                  clear BK150
                  clear BK168
                  clear BK174
                  clear HB
                  have HO159 := n0_
                  have HO162 := n1_
                  have HO166 := n2_
                  have HO172 := n3_
                  have BK146 := n4_
                  have BK147 := n5_
                  have BK150 := n6_
                  have BK168 := n7_
                  have BK174 := n8_
                  have HB := n9_
                  clear n0_ n1_ n2_ n3_ n4_ n5_ n6_ n7_ n8_ n9_
                  refine start_ (n := 16) (S := fun w' => w'.cell? ⟨gb174, 0, none⟩ = some (.int .i64 t169) ∧ w'.cell? ⟨gb174, 1, none⟩ = some (.slice Ao105 t170.length co105) ∧ w'.cell? ⟨gb174, 2, none⟩ = some (.string t173) ∧ w'.cell? ⟨gb168, 0, none⟩ = some (.int .i64 t163) ∧ w'.cell? ⟨gb168, 1, none⟩ = some (.slice Ao96 t164.length co96) ∧ w'.cell? ⟨gb168, 2, none⟩ = some (.string t167) ∧ w'.cell? ⟨gb150, 0, none⟩ = some (.slice A0_0 l0_0.length c0_0) ∧ w'.cell? ⟨gb150, 1, none⟩ = some (.slice Ao87 y160.length co87) ∧ w'.cell? ⟨gb150, 2, none⟩ = some (.bool a0_2) ∧ w'.cell? ⟨gb150, 3, none⟩ = some (.string a0_3)) (ds := []) #[false, false, false, false, false, false, false, false, false, false, false, false, false, false, false, false] (by kernel_rfl) rfl rfl ⟨(blk_cell BK174.out 0).trans rfl, (blk_cell BK174.out 1).trans rfl, (blk_cell BK174.out 2).trans rfl, (blk_cell BK168.out 0).trans rfl, (blk_cell BK168.out 1).trans rfl, (blk_cell BK168.out 2).trans rfl, (blk_cell BK150.out 0).trans rfl, (blk_cell BK150.out 1).trans rfl, (blk_cell BK150.out 2).trans rfl, (blk_cell BK150.out 3).trans rfl⟩ (fun hHeld => ?_); refine with_tabW doorkeeperlaw23_DecideMore.tab7 doorkeeperlaw23_DecideMore.bits7 (fun HT_ HW_ => ?_)
                  generalize w106.drew = w107 at HO159 HO162 HO166 HO172 BK146 BK147 BK150 BK168 BK174 HB hHeld ⊢
                  refine pure_ (i := 0) (N := some 48) (v := ?_) (a' := ?_) #[true, false, false, false, false, false, false, false, false, false, false, false, false, false, false, false] rfl rfl (any_of HT_.out (by kernel_rfl)) (fun _ _ _ h => h) (Or.inl ⟨by rfl, ?_⟩) ?_ ?_
                  rotate_left
                  · intro w'
                    go_simp
                    with_reducible rfl
                  rotate_left
                  · simp only [Act.put, List.setIfInBounds_toArray, List.set_cons_zero, List.set_cons_succ, i64_w, i32_w]
                    rfl
                  refine pure_ (i := 3) (N := some 51) (v := ?_) (a' := ?_) #[true, false, false, true, false, false, false, false, false, false, false, false, false, false, false, false] rfl rfl (any_of HT_.out (by kernel_rfl)) (fun _ _ _ h => h) (Or.inl ⟨by rfl, ?_⟩) ?_ ?_
                  rotate_left
                  · intro w'
                    go_simp
                    with_reducible rfl
                  rotate_left
                  · simp only [Act.put, List.setIfInBounds_toArray, List.set_cons_zero, List.set_cons_succ, i64_w, i32_w]
                    rfl
                  refine take_ (i := 1) (N := some 49) (v := ?_) (a' := ?_) #[true, true, false, true, false, false, false, false, false, false, false, false, false, false, false, false] rfl rfl (take_ofW HT_.out HW_.out (by kernel_rfl)) (fun _ _ _ h => h) (Or.inl ⟨by rfl, ?_⟩) hHeld ?_ ?_
                  rotate_left
                  · rintro w' ⟨s0, s1, s2, s3, s4, s5, s6, s7, s8, s9⟩
                    go_simp
                    with_reducible rfl
                  rotate_left
                  · simp only [Act.put, List.setIfInBounds_toArray, List.set_cons_zero, List.set_cons_succ, i64_w, i32_w]
                    rfl
                  refine pure_ (i := 2) (N := some 50) (v := ?_) (a' := ?_) #[true, true, true, true, false, false, false, false, false, false, false, false, false, false, false, false] rfl rfl (any_of HT_.out (by kernel_rfl)) (fun _ _ _ h => h) (Or.inl ⟨by rfl, ?_⟩) ?_ ?_
                  rotate_left
                  · intro w'
                    go_simp
                    with_reducible rfl
                  rotate_left
                  · simp only [Act.put, List.setIfInBounds_toArray, List.set_cons_zero, List.set_cons_succ, i64_w, i32_w]
                    rfl
                  refine take_ (i := 4) (N := some 52) (v := ?_) (a' := ?_) #[true, true, true, true, true, false, false, false, false, false, false, false, false, false, false, false] rfl rfl (take_ofW HT_.out HW_.out (by kernel_rfl)) (fun _ _ _ h => h) (Or.inl ⟨by rfl, ?_⟩) hHeld ?_ ?_
                  rotate_left
                  · rintro w' ⟨s0, s1, s2, s3, s4, s5, s6, s7, s8, s9⟩
                    go_simp
                    with_reducible rfl
                  rotate_left
                  · simp only [Act.put, List.setIfInBounds_toArray, List.set_cons_zero, List.set_cons_succ, i64_w, i32_w]
                    rfl
                  refine pure_ (i := 5) (N := some 53) (v := ?_) (a' := ?_) #[true, true, true, true, true, true, false, false, false, false, false, false, false, false, false, false] rfl rfl (any_of HT_.out (by kernel_rfl)) (fun _ _ _ h => h) (Or.inl ⟨by rfl, ?_⟩) ?_ ?_
                  rotate_left
                  · intro w'
                    go_simp
                    with_reducible rfl
                  rotate_left
                  · simp only [Act.put, List.setIfInBounds_toArray, List.set_cons_zero, List.set_cons_succ, i64_w, i32_w]
                    rfl
                  refine pure_ (i := 6) (N := some 54) (v := ?_) (a' := ?_) #[true, true, true, true, true, true, true, false, false, false, false, false, false, false, false, false] rfl rfl (any_of HT_.out (by kernel_rfl)) (fun _ _ _ h => h) (Or.inl ⟨by rfl, ?_⟩) ?_ ?_
                  rotate_left
                  · intro w'
                    go_simp
                    with_reducible rfl
                  rotate_left
                  · simp only [Act.put, List.setIfInBounds_toArray, List.set_cons_zero, List.set_cons_succ, i64_w, i32_w]
                    rfl
                  refine pure_ (i := 7) (N := some 55) (v := ?_) (a' := ?_) #[true, true, true, true, true, true, true, true, false, false, false, false, false, false, false, false] rfl rfl (any_of HT_.out (by kernel_rfl)) (fun _ _ _ h => h) (Or.inl ⟨by rfl, ?_⟩) ?_ ?_
                  rotate_left
                  · intro w'
                    go_simp
                    with_reducible rfl
                  rotate_left
                  · simp only [Act.put, List.setIfInBounds_toArray, List.set_cons_zero, List.set_cons_succ, i64_w, i32_w]
                    rfl
                  refine pure_ (i := 10) (N := some 58) (v := ?_) (a' := ?_) #[true, true, true, true, true, true, true, true, false, false, true, false, false, false, false, false] rfl rfl (any_of HT_.out (by kernel_rfl)) (fun _ _ _ h => h) (Or.inl ⟨by rfl, ?_⟩) ?_ ?_
                  rotate_left
                  · intro w'
                    go_simp
                    with_reducible rfl
                  rotate_left
                  · simp only [Act.put, List.setIfInBounds_toArray, List.set_cons_zero, List.set_cons_succ, i64_w, i32_w]
                    rfl
                  refine pure_ (i := 11) (N := some 59) (v := ?_) (a' := ?_) #[true, true, true, true, true, true, true, true, false, false, true, true, false, false, false, false] rfl rfl (any_of HT_.out (by kernel_rfl)) (fun _ _ _ h => h) (Or.inl ⟨by rfl, ?_⟩) ?_ ?_
                  rotate_left
                  · intro w'
                    go_simp
                    with_reducible rfl
                  rotate_left
                  · simp only [Act.put, List.setIfInBounds_toArray, List.set_cons_zero, List.set_cons_succ, i64_w, i32_w]
                    rfl
                  refine take_ (i := 8) (N := some 56) (v := ?_) (a' := ?_) #[true, true, true, true, true, true, true, true, true, false, true, true, false, false, false, false] rfl rfl (take_ofW HT_.out HW_.out (by kernel_rfl)) (fun _ _ _ h => h) (Or.inl ⟨by rfl, ?_⟩) hHeld ?_ ?_
                  rotate_left
                  · rintro w' ⟨s0, s1, s2, s3, s4, s5, s6, s7, s8, s9⟩
                    go_simp
                    with_reducible rfl
                  rotate_left
                  · simp only [Act.put, List.setIfInBounds_toArray, List.set_cons_zero, List.set_cons_succ, i64_w, i32_w]
                    rfl
                  refine take_ (i := 9) (N := some 57) (v := ?_) (a' := ?_) #[true, true, true, true, true, true, true, true, true, true, true, true, false, false, false, false] rfl rfl (take_ofW HT_.out HW_.out (by kernel_rfl)) (fun _ _ _ h => h) (Or.inl ⟨by rfl, ?_⟩) hHeld ?_ ?_
                  rotate_left
                  · rintro w' ⟨s0, s1, s2, s3, s4, s5, s6, s7, s8, s9⟩
                    go_simp
                    with_reducible rfl
                  rotate_left
                  · simp only [Act.put, List.setIfInBounds_toArray, List.set_cons_zero, List.set_cons_succ, i64_w, i32_w]
                    rfl
                  refine one_ (i := 12) (N := some 60) #[true, true, true, true, true, true, true, true, true, true, true, true, true, false, false, false] rfl rfl (one_of HT_.out (by kernel_rfl)) (by decide) (fun K hK => ?_)
                  refine goes_ Tryd.func29 (by kernel_rfl) rfl #[.agg #[.slice A0_0 l0_0.length c0_0, .slice Ao87 y160.length co87, .bool a0_2, .string a0_3], .string a2, .string a3] (by rfl) rfl rfl (by (try simp only [List.map_toArray, List.map_cons, List.map_nil]); first | done | rfl | (simp only [List.length_drop, List.length_take]; rfl)) ?_
                  with_reducible refine (doorkeeperref23_By.calls kj4 _ _ l0_0 _ _ y160 a0_2 a0_3 a2 a3 t175 t176 t179 _ ?side1 ?side2 ?side3 ?side4 A67.out).mono ?_
                  (case side1 => repeat (first | exact (Kd.C_below HR0_0.out HB.out) | (with_reducible refine Kd.C_alloc ?_ _) | (with_reducible refine Kd.C_drewN ?_ _) | (with_reducible refine Kd.C_drew ?_)))
                  (case side2 => exact HC0_0.out)
                  (case side3 => repeat (first | exact (Kd.R_reads' HO162.out).2.2 | (with_reducible refine Kd.C_alloc ?_ _) | (with_reducible refine Kd.C_drewN ?_ _) | (with_reducible refine Kd.C_drew ?_)))
                  (case side4 => exact (Kd.R_reads' HO162.out).2.1)
                  rintro e w108 ⟨v177, rfl, ho0, hb⟩
                  refine ⟨_, rfl, ?_⟩
                  have n0_ := Aside0.mk (Kd.R_below (by (with_reducible repeat (first | apply Kd.R_alloc | apply Kd.R_drewN | apply Kd.R_drew)); exact HO159.out) hb)
                  have n1_ := Aside0.mk (Kd.R_below (by (with_reducible repeat (first | apply Kd.R_alloc | apply Kd.R_drewN | apply Kd.R_drew)); exact HO162.out) hb)
                  have n2_ := Aside0.mk (Kd.R_elder' (by (with_reducible repeat (first | apply Kd.R_alloc | apply Kd.R_drewN | apply Kd.R_drew)); exact HO166.out) (Kd.R_base ho0) hb)
                  have n3_ := Aside0.mk (Kd.R_elder' (by (with_reducible repeat (first | apply Kd.R_alloc | apply Kd.R_drewN | apply Kd.R_drew)); exact HO172.out) (Kd.R_base ho0) hb)
                  have n4_ := Aside0.mk (Kd.R_lower (Kd.R_new' (Kd.R_new' ho0 (Kd.R_lt (by (with_reducible repeat (first | apply Kd.R_alloc | apply Kd.R_drewN | apply Kd.R_drew)); exact HO166.out))) (Kd.R_lt (by (with_reducible repeat (first | apply Kd.R_alloc | apply Kd.R_drewN | apply Kd.R_drew)); exact HO172.out))) (below_size (by repeat (first | (with_reducible first | exact HB.out | apply below_alloc | apply pw_below_drewN | apply below_drew1 | refine below_set ?_ GE146.out | refine below_set ?_ GE147.out | refine below_set ?_ GE150.out | refine below_set ?_ GE168.out | refine below_set ?_ GE174.out) | exact HB.out))))
                  have n5_ := Aside0.mk (blk_below (g := gb146) (o := .cells #[.slice A0_0 l0_0.length c0_0, .slice A0_1 l0_1.length c0_1, .bool a0_2, .string a0_3] 30 (0, 0)) (by (with_reducible repeat (first | refine blk_drewN ?_ _ | refine blk_drew ?_ | refine blk_alloc ?_ _)); exact BK146.out) hb)
                  have n6_ := Aside0.mk (blk_below (g := gb147) (o := .cells #[.string a1_0, .bool a1_1, .bool a1_2] 39 (0, 0)) (by (with_reducible repeat (first | refine blk_drewN ?_ _ | refine blk_drew ?_ | refine blk_alloc ?_ _)); exact BK147.out) hb)
                  have n7_ := Aside0.mk (blk_below (g := gb150) (o := .cells #[.slice A0_0 l0_0.length c0_0, .slice Ao87 y160.length co87, .bool a0_2, .string a0_3] 30 (0, 0)) (by (with_reducible repeat (first | refine blk_drewN ?_ _ | refine blk_drew ?_ | refine blk_alloc ?_ _)); exact BK150.out) hb)
                  have n8_ := Aside0.mk (blk_below (g := gb168) (o := .cells #[.int .i64 t163, .slice Ao96 t164.length co96, .string t167] 44 (0, 0)) (by (with_reducible repeat (first | refine blk_drewN ?_ _ | refine blk_drew ?_ | refine blk_alloc ?_ _)); exact BK168.out) hb)
                  have n9_ := Aside0.mk (blk_below (g := gb174) (o := .cells #[.int .i64 t169, .slice Ao105 t170.length co105, .string t173] 44 (0, 0)) (by (with_reducible repeat (first | refine blk_drewN ?_ _ | refine blk_drew ?_ | refine blk_alloc ?_ _)); exact BK174.out) hb)
                  have n10_ := Aside0.mk (below_step (by repeat (first | (with_reducible first | exact HB.out | apply below_alloc | apply pw_below_drewN | apply below_drew1 | refine below_set ?_ GE146.out | refine below_set ?_ GE147.out | refine below_set ?_ GE150.out | refine below_set ?_ GE168.out | refine below_set ?_ GE174.out) | exact HB.out)) hb)
                  clear HO159
                  clear HO162
                  clear HO166
                  clear HO172
                  clear BK146
                  clear BK147
                  clear BK150
                  clear BK168
                  clear BK174
                  clear HB
                  have HO159 := n0_
                  have HO162 := n1_
                  have HO166 := n2_
                  have HO172 := n3_
                  have HO178 := n4_
                  have BK146 := n5_
                  have BK147 := n6_
                  have BK150 := n7_
                  have BK168 := n8_
                  have BK174 := n9_
                  have HB := n10_
                  clear n0_ n1_ n2_ n3_ n4_ n5_ n6_ n7_ n8_ n9_ n10_
                  (try clear hb)
                  (try clear hb2)
                  (try clear hk)
                  (try clear hi)
                  (try clear ho0)
                  obtain ⟨Ao109, co109, eo109⟩ := Kd.R_slice HO178.out
                  (first | subst eo109 | (injection eo109 with f1_ f2_ f3_; have f4_ := f1_.symm; have f5_ := f3_.symm; clear f1_ f2_ f3_; subst f4_; subst f5_))
                  refine hK.out _ _ ⟨(blk_cell BK174.out 0).trans rfl, (blk_cell BK174.out 1).trans rfl, (blk_cell BK174.out 2).trans rfl, (blk_cell BK168.out 0).trans rfl, (blk_cell BK168.out 1).trans rfl, (blk_cell BK168.out 2).trans rfl, (blk_cell BK150.out 0).trans rfl, (blk_cell BK150.out 1).trans rfl, (blk_cell BK150.out 2).trans rfl, (blk_cell BK150.out 3).trans rfl⟩ (fun hHeld => ?_)
                  clear hK K
                  refine norm_ (a' := ?_) ?_ ?_
                  rotate_left
                  · show Act.put _ (some 60) _ = _
                    simp only [Act.put, List.setIfInBounds_toArray, List.set_cons_zero, List.set_cons_succ, i64_w, i32_w]
                    rfl
                  refine one_ (i := 13) (N := some 61) #[true, true, true, true, true, true, true, true, true, true, true, true, true, true, false, false] rfl rfl (one_of HT_.out (by kernel_rfl)) (by decide) (fun K hK => ?_)
                  refine goes_ Tryd.func27 (by kernel_rfl) rfl #[.agg #[.int .i64 t169, .slice Ao105 t170.length co105, .string t173], .agg #[.int .i64 t175, .slice Ao109 t176.length co109, .string t179]] (by rfl) rfl rfl (by (try simp only [List.map_toArray, List.map_cons, List.map_nil]); first | done | rfl | (simp only [List.length_drop, List.length_take]; rfl)) ?_
                  with_reducible refine (doorkeeperref23_Same.calls kj4 t169 _ _ t170 t173 t175 _ _ t176 t179 true _ ?side1 ?side2 ?side3 ?side4 A68.out).mono ?_
                  (case side1 => repeat (first | exact (Kd.R_reads' HO172.out).2.2 | (with_reducible refine Kd.C_alloc ?_ _) | (with_reducible refine Kd.C_drewN ?_ _) | (with_reducible refine Kd.C_drew ?_)))
                  (case side2 => exact (Kd.R_reads' HO172.out).2.1)
                  (case side3 => repeat (first | exact (Kd.R_reads' HO178.out).2.2 | (with_reducible refine Kd.C_alloc ?_ _) | (with_reducible refine Kd.C_drewN ?_ _) | (with_reducible refine Kd.C_drew ?_)))
                  (case side4 => exact (Kd.R_reads' HO178.out).2.1)
                  rintro e w110 ⟨rfl, hb⟩
                  refine ⟨_, rfl, ?_⟩
                  have n0_ := Aside0.mk (Kd.R_below (by (with_reducible repeat (first | apply Kd.R_alloc | apply Kd.R_drewN | apply Kd.R_drew)); exact HO159.out) hb)
                  have n1_ := Aside0.mk (Kd.R_below (by (with_reducible repeat (first | apply Kd.R_alloc | apply Kd.R_drewN | apply Kd.R_drew)); exact HO162.out) hb)
                  have n2_ := Aside0.mk (Kd.R_below (by (with_reducible repeat (first | apply Kd.R_alloc | apply Kd.R_drewN | apply Kd.R_drew)); exact HO166.out) hb)
                  have n3_ := Aside0.mk (Kd.R_below (by (with_reducible repeat (first | apply Kd.R_alloc | apply Kd.R_drewN | apply Kd.R_drew)); exact HO172.out) hb)
                  have n4_ := Aside0.mk (Kd.R_below (by (with_reducible repeat (first | apply Kd.R_alloc | apply Kd.R_drewN | apply Kd.R_drew)); exact HO178.out) hb)
                  have n5_ := Aside0.mk (blk_below (g := gb146) (o := .cells #[.slice A0_0 l0_0.length c0_0, .slice A0_1 l0_1.length c0_1, .bool a0_2, .string a0_3] 30 (0, 0)) (by (with_reducible repeat (first | refine blk_drewN ?_ _ | refine blk_drew ?_ | refine blk_alloc ?_ _)); exact BK146.out) hb)
                  have n6_ := Aside0.mk (blk_below (g := gb147) (o := .cells #[.string a1_0, .bool a1_1, .bool a1_2] 39 (0, 0)) (by (with_reducible repeat (first | refine blk_drewN ?_ _ | refine blk_drew ?_ | refine blk_alloc ?_ _)); exact BK147.out) hb)
                  have n7_ := Aside0.mk (blk_below (g := gb150) (o := .cells #[.slice A0_0 l0_0.length c0_0, .slice Ao87 y160.length co87, .bool a0_2, .string a0_3] 30 (0, 0)) (by (with_reducible repeat (first | refine blk_drewN ?_ _ | refine blk_drew ?_ | refine blk_alloc ?_ _)); exact BK150.out) hb)
                  have n8_ := Aside0.mk (blk_below (g := gb168) (o := .cells #[.int .i64 t163, .slice Ao96 t164.length co96, .string t167] 44 (0, 0)) (by (with_reducible repeat (first | refine blk_drewN ?_ _ | refine blk_drew ?_ | refine blk_alloc ?_ _)); exact BK168.out) hb)
                  have n9_ := Aside0.mk (blk_below (g := gb174) (o := .cells #[.int .i64 t169, .slice Ao105 t170.length co105, .string t173] 44 (0, 0)) (by (with_reducible repeat (first | refine blk_drewN ?_ _ | refine blk_drew ?_ | refine blk_alloc ?_ _)); exact BK174.out) hb)
                  have n10_ := Aside0.mk (below_step (by repeat (first | (with_reducible first | exact HB.out | apply below_alloc | apply pw_below_drewN | apply below_drew1 | refine below_set ?_ GE146.out | refine below_set ?_ GE147.out | refine below_set ?_ GE150.out | refine below_set ?_ GE168.out | refine below_set ?_ GE174.out) | exact HB.out)) hb)
                  clear HO159
                  clear HO162
                  clear HO166
                  clear HO172
                  clear HO178
                  clear BK146
                  clear BK147
                  clear BK150
                  clear BK168
                  clear BK174
                  clear HB
                  have HO159 := n0_
                  have HO162 := n1_
                  have HO166 := n2_
                  have HO172 := n3_
                  have HO178 := n4_
                  have BK146 := n5_
                  have BK147 := n6_
                  have BK150 := n7_
                  have BK168 := n8_
                  have BK174 := n9_
                  have HB := n10_
                  clear n0_ n1_ n2_ n3_ n4_ n5_ n6_ n7_ n8_ n9_ n10_
                  (try clear hb)
                  (try clear hb2)
                  (try clear hk)
                  (try clear hi)
                  refine hK.out _ _ ⟨(blk_cell BK174.out 0).trans rfl, (blk_cell BK174.out 1).trans rfl, (blk_cell BK174.out 2).trans rfl, (blk_cell BK168.out 0).trans rfl, (blk_cell BK168.out 1).trans rfl, (blk_cell BK168.out 2).trans rfl, (blk_cell BK150.out 0).trans rfl, (blk_cell BK150.out 1).trans rfl, (blk_cell BK150.out 2).trans rfl, (blk_cell BK150.out 3).trans rfl⟩ (fun hHeld => ?_)
                  clear hK K
                  refine norm_ (a' := ?_) ?_ ?_
                  rotate_left
                  · show Act.put _ (some 61) _ = _
                    simp only [Act.put, List.setIfInBounds_toArray, List.set_cons_zero, List.set_cons_succ, i64_w, i32_w]
                    rfl
                  refine pure_ (i := 14) (N := some 62) (v := ?_) (a' := ?_) #[true, true, true, true, true, true, true, true, true, true, true, true, true, true, true, false] rfl rfl (any_of HT_.out (by kernel_rfl)) (fun _ _ _ h => h) (Or.inl ⟨by rfl, ?_⟩) ?_ ?_
                  rotate_left
                  · intro w'
                    go_simp
                    with_reducible rfl
                  rotate_left
                  · simp only [Act.put, List.setIfInBounds_toArray, List.set_cons_zero, List.set_cons_succ, i64_w, i32_w]
                    rfl
                  refine pure_ (i := 15) (N := some 63) (v := ?_) (a' := ?_) #[true, true, true, true, true, true, true, true, true, true, true, true, true, true, true, true] rfl rfl (any_of HT_.out (by kernel_rfl)) (fun _ _ _ h => h) (Or.inl ⟨by rfl, ?_⟩) ?_ ?_
                  rotate_left
                  · intro w'
                    go_simp
                    with_reducible rfl
                  rotate_left
                  · simp only [Act.put, List.setIfInBounds_toArray, List.set_cons_zero, List.set_cons_succ, i64_w, i32_w]
                    rfl
                  refine done_ (done_of HT_.out (by kernel_rfl)) ?_
                  have hcz111_0 : w110.cell? ⟨gb168, 0, none⟩ = some (.int .i64 t163) := (blk_cell BK168.out 0).trans rfl
                  have hcz111_1 : w110.cell? ⟨gb168, 1, none⟩ = some (.slice Ao96 t164.length co96) := (blk_cell BK168.out 1).trans rfl
                  have hcz111_2 : w110.cell? ⟨gb168, 2, none⟩ = some (.string t167) := (blk_cell BK168.out 2).trans rfl
                  have hfz111_0 := blk_frozen BK168.out 0
                  have hfz111_1 := blk_frozen BK168.out 1
                  have hfz111_2 := blk_frozen BK168.out 2
                  have hcz112_0 : w110.cell? ⟨gb174, 0, none⟩ = some (.int .i64 t169) := (blk_cell BK174.out 0).trans rfl
                  have hcz112_1 : w110.cell? ⟨gb174, 1, none⟩ = some (.slice Ao105 t170.length co105) := (blk_cell BK174.out 1).trans rfl
                  have hcz112_2 : w110.cell? ⟨gb174, 2, none⟩ = some (.string t173) := (blk_cell BK174.out 2).trans rfl
                  have hfz112_0 := blk_frozen BK174.out 0
                  have hfz112_1 := blk_frozen BK174.out 1
                  have hfz112_2 := blk_frozen BK174.out 2
                  try go_wp2
                  go_ret
                  exact ⟨by first | rfl | (simp [errW_none, errW_some] <;> rfl) | (simp [*, errW_none, errW_some] <;> rfl), by repeat (first | (with_reducible first | exact HB.out | apply below_alloc | apply pw_below_drewN | apply below_drew1 | refine below_set ?_ GE146.out | refine below_set ?_ GE147.out | refine below_set ?_ GE150.out | refine below_set ?_ GE168.out | refine below_set ?_ GE174.out) | exact HB.out)⟩
                · rw [if_neg c70] at H
                  have c70b0 : (t163 == 1) = false := beq_eq_false_iff_ne.mpr c70
                  have c70b1 : (t163 != 1) = true := bne_iff_ne.mpr c70
                  obtain rfl := Option.some.inj H
                  have hnb113 := NB146_147.out
                  have hnc113 := NB147_146.out
                  have hcz114_0 : wc.cell? ⟨gb146, 0, none⟩ = some (.slice A0_0 l0_0.length c0_0) := (blk_cell BK146.out 0).trans rfl
                  have hcz114_1 : wc.cell? ⟨gb146, 1, none⟩ = some (.slice A0_1 l0_1.length c0_1) := (blk_cell BK146.out 1).trans rfl
                  have hcz114_2 : wc.cell? ⟨gb146, 2, none⟩ = some (.bool a0_2) := (blk_cell BK146.out 2).trans rfl
                  have hcz114_3 : wc.cell? ⟨gb146, 3, none⟩ = some (.string a0_3) := (blk_cell BK146.out 3).trans rfl
                  have hfz114_0 := blk_frozen BK146.out 0
                  have hfz114_1 := blk_frozen BK146.out 1
                  have hfz114_2 := blk_frozen BK146.out 2
                  have hfz114_3 := blk_frozen BK146.out 3
                  try go_wp2_with (first | ((with_reducible refine gate_dst (N := 9) rfl ?_); (try (refine gate_guard (by rfl) ?_; dsimp only)); refine box_event ?hg (N := 9) ?hd (cs := #[.slice none 0 0, .slice none 0 0, .bool false, .string (⟨#[]⟩ : ByteArray)]) (t := 30) ?hr ?_; (case hd => rfl); (case hg => rfl); (case hr => first | (go_simp; done) | (go_simp; rfl)); intro gb150 hg w115 hbox hb; have n0_ := Aside0.mk (blk_below (g := gb146) (o := .cells #[.slice A0_0 l0_0.length c0_0, .slice A0_1 l0_1.length c0_1, .bool a0_2, .string a0_3] 30 (0, 0)) (by (with_reducible repeat (first | refine blk_drewN ?_ _ | refine blk_drew ?_ | refine blk_alloc ?_ _)); exact BK146.out) hb); have n1_ := Aside0.mk (blk_below (g := gb147) (o := .cells #[.string a1_0, .bool a1_1, .bool a1_2] 39 (0, 0)) (by (with_reducible repeat (first | refine blk_drewN ?_ _ | refine blk_drew ?_ | refine blk_alloc ?_ _)); exact BK147.out) hb); have n2_ := Aside0.mk (below_step (by repeat (first | (with_reducible first | exact HB.out | apply below_alloc | apply pw_below_drewN | apply below_drew1 | refine below_set ?_ GE146.out | refine below_set ?_ GE147.out) | exact HB.out)) hb); have n3_ := Aside0.mk (hbox); have n4_ := Aside0.mk ((by rw [hg]; exact (below_size (by repeat (first | (with_reducible first | exact HB.out | apply below_alloc | apply pw_below_drewN | apply below_drew1 | refine below_set ?_ GE146.out | refine below_set ?_ GE147.out) | exact HB.out))) : w.heap.size ≤ gb150)); have n5_ := Aside0.mk ((by rw [hg]; exact (below_size (by repeat (first | (with_reducible first | exact HB.out | apply below_alloc | apply pw_below_drewN | apply below_drew1 | refine below_set ?_ GE146.out | refine below_set ?_ GE147.out) | exact HB.out))) : w.heap.size ≤ gb150)); have n6_ := Aside0.mk ((by rw [hg]; exact Nat.ne_of_lt (blk_lt (g := gb146) (o := .cells #[.slice A0_0 l0_0.length c0_0, .slice A0_1 l0_1.length c0_1, .bool a0_2, .string a0_3] 30 (0, 0)) (by (with_reducible repeat (first | refine blk_drewN ?_ _ | refine blk_drew ?_ | refine blk_alloc ?_ _)); exact BK146.out)) : gb146 ≠ gb150)); have n7_ := Aside0.mk ((by rw [hg]; exact Nat.ne_of_gt (blk_lt (g := gb146) (o := .cells #[.slice A0_0 l0_0.length c0_0, .slice A0_1 l0_1.length c0_1, .bool a0_2, .string a0_3] 30 (0, 0)) (by (with_reducible repeat (first | refine blk_drewN ?_ _ | refine blk_drew ?_ | refine blk_alloc ?_ _)); exact BK146.out)) : gb150 ≠ gb146)); have n8_ := Aside0.mk ((by rw [hg]; exact Nat.ne_of_lt (blk_lt (g := gb147) (o := .cells #[.string a1_0, .bool a1_1, .bool a1_2] 39 (0, 0)) (by (with_reducible repeat (first | refine blk_drewN ?_ _ | refine blk_drew ?_ | refine blk_alloc ?_ _)); exact BK147.out)) : gb147 ≠ gb150)); have n9_ := Aside0.mk ((by rw [hg]; exact Nat.ne_of_gt (blk_lt (g := gb147) (o := .cells #[.string a1_0, .bool a1_1, .bool a1_2] 39 (0, 0)) (by (with_reducible repeat (first | refine blk_drewN ?_ _ | refine blk_drew ?_ | refine blk_alloc ?_ _)); exact BK147.out)) : gb150 ≠ gb147)); clear BK146; clear BK147; clear HB; have BK146 := n0_; have BK147 := n1_; have HB := n2_; have BK150 := n3_; have GW150 := n4_; have GE150 := n5_; have NB146_150 := n6_; have NB150_146 := n7_; have NB147_150 := n8_; have NB150_147 := n9_; clear n0_ n1_ n2_ n3_ n4_ n5_ n6_ n7_ n8_ n9_; clear hb hbox hg; have hnb116 := NB150_146.out; have hnc116 := NB146_150.out; have hnb117 := NB150_147.out; have hnc117 := NB147_150.out; have hcz118_0 : w115.cell? ⟨gb150, 0, none⟩ = some (.slice none 0 0) := (blk_cell BK150.out 0).trans rfl; have hcz118_1 : w115.cell? ⟨gb150, 1, none⟩ = some (.slice none 0 0) := (blk_cell BK150.out 1).trans rfl; have hcz118_2 : w115.cell? ⟨gb150, 2, none⟩ = some (.bool false) := (blk_cell BK150.out 2).trans rfl; have hcz118_3 : w115.cell? ⟨gb150, 3, none⟩ = some (.string (⟨#[]⟩ : ByteArray)) := (blk_cell BK150.out 3).trans rfl; have hfz118_0 := blk_frozen BK150.out 0; have hfz118_1 := blk_frozen BK150.out 1; have hfz118_2 := blk_frozen BK150.out 2; have hfz118_3 := blk_frozen BK150.out 3))
                  have n0_ : Aside0 (((((w115.setCell ⟨gb150, 0, none⟩ (.slice A0_0 l0_0.length c0_0)).setCell ⟨gb150, 1, none⟩ (.slice A0_1 l0_1.length c0_1)).setCell ⟨gb150, 2, none⟩ (.bool a0_2)).setCell ⟨gb150, 3, none⟩ (.string a0_3)).heap[gb146]? = some (.cells #[.slice A0_0 l0_0.length c0_0, .slice A0_1 l0_1.length c0_1, .bool a0_2, .string a0_3] 30 (0, 0))) := ⟨by (with_reducible repeat (first | refine blk_drewN ?_ _ | refine blk_drew ?_ | refine blk_alloc ?_ _)); refine blk_far ?_ NB146_150.out _; (with_reducible repeat (first | refine blk_drewN ?_ _ | refine blk_drew ?_ | refine blk_alloc ?_ _)); refine blk_far ?_ NB146_150.out _; (with_reducible repeat (first | refine blk_drewN ?_ _ | refine blk_drew ?_ | refine blk_alloc ?_ _)); refine blk_far ?_ NB146_150.out _; (with_reducible repeat (first | refine blk_drewN ?_ _ | refine blk_drew ?_ | refine blk_alloc ?_ _)); refine blk_far ?_ NB146_150.out _; (with_reducible repeat (first | refine blk_drewN ?_ _ | refine blk_drew ?_ | refine blk_alloc ?_ _)); exact BK146.out⟩
                  have n1_ : Aside0 (((((w115.setCell ⟨gb150, 0, none⟩ (.slice A0_0 l0_0.length c0_0)).setCell ⟨gb150, 1, none⟩ (.slice A0_1 l0_1.length c0_1)).setCell ⟨gb150, 2, none⟩ (.bool a0_2)).setCell ⟨gb150, 3, none⟩ (.string a0_3)).heap[gb147]? = some (.cells #[.string a1_0, .bool a1_1, .bool a1_2] 39 (0, 0))) := ⟨by (with_reducible repeat (first | refine blk_drewN ?_ _ | refine blk_drew ?_ | refine blk_alloc ?_ _)); refine blk_far ?_ NB147_150.out _; (with_reducible repeat (first | refine blk_drewN ?_ _ | refine blk_drew ?_ | refine blk_alloc ?_ _)); refine blk_far ?_ NB147_150.out _; (with_reducible repeat (first | refine blk_drewN ?_ _ | refine blk_drew ?_ | refine blk_alloc ?_ _)); refine blk_far ?_ NB147_150.out _; (with_reducible repeat (first | refine blk_drewN ?_ _ | refine blk_drew ?_ | refine blk_alloc ?_ _)); refine blk_far ?_ NB147_150.out _; (with_reducible repeat (first | refine blk_drewN ?_ _ | refine blk_drew ?_ | refine blk_alloc ?_ _)); exact BK147.out⟩
                  have n2_ : Aside0 (((((w115.setCell ⟨gb150, 0, none⟩ (.slice A0_0 l0_0.length c0_0)).setCell ⟨gb150, 1, none⟩ (.slice A0_1 l0_1.length c0_1)).setCell ⟨gb150, 2, none⟩ (.bool a0_2)).setCell ⟨gb150, 3, none⟩ (.string a0_3)).heap[gb150]? = some (.cells #[.slice A0_0 l0_0.length c0_0, .slice A0_1 l0_1.length c0_1, .bool a0_2, .string a0_3] 30 (0, 0))) := ⟨by (with_reducible repeat (first | refine blk_drewN ?_ _ | refine blk_drew ?_ | refine blk_alloc ?_ _)); refine blk_put (cs := #[.slice A0_0 l0_0.length c0_0, .slice A0_1 l0_1.length c0_1, .bool a0_2, .string (⟨#[]⟩ : ByteArray)]) ?_ 3 _ rfl; (with_reducible repeat (first | refine blk_drewN ?_ _ | refine blk_drew ?_ | refine blk_alloc ?_ _)); refine blk_put (cs := #[.slice A0_0 l0_0.length c0_0, .slice A0_1 l0_1.length c0_1, .bool false, .string (⟨#[]⟩ : ByteArray)]) ?_ 2 _ rfl; (with_reducible repeat (first | refine blk_drewN ?_ _ | refine blk_drew ?_ | refine blk_alloc ?_ _)); refine blk_put (cs := #[.slice A0_0 l0_0.length c0_0, .slice none 0 0, .bool false, .string (⟨#[]⟩ : ByteArray)]) ?_ 1 _ rfl; (with_reducible repeat (first | refine blk_drewN ?_ _ | refine blk_drew ?_ | refine blk_alloc ?_ _)); refine blk_put (cs := #[.slice none 0 0, .slice none 0 0, .bool false, .string (⟨#[]⟩ : ByteArray)]) ?_ 0 _ rfl; (with_reducible repeat (first | refine blk_drewN ?_ _ | refine blk_drew ?_ | refine blk_alloc ?_ _)); exact BK150.out⟩
                  have n3_ : Aside0 (Below w.heap.size w ((((w115.setCell ⟨gb150, 0, none⟩ (.slice A0_0 l0_0.length c0_0)).setCell ⟨gb150, 1, none⟩ (.slice A0_1 l0_1.length c0_1)).setCell ⟨gb150, 2, none⟩ (.bool a0_2)).setCell ⟨gb150, 3, none⟩ (.string a0_3))) := ⟨by repeat (first | (with_reducible first | exact HB.out | apply below_alloc | apply pw_below_drewN | apply below_drew1 | refine below_set ?_ GE146.out | refine below_set ?_ GE147.out | refine below_set ?_ GE150.out) | exact HB.out)⟩
                  (try clear BK146)
                  (try clear BK147)
                  (try clear BK150)
                  (try clear HB)
                  generalize ((((w115.setCell ⟨gb150, 0, none⟩ (.slice A0_0 l0_0.length c0_0)).setCell ⟨gb150, 1, none⟩ (.slice A0_1 l0_1.length c0_1)).setCell ⟨gb150, 2, none⟩ (.bool a0_2)).setCell ⟨gb150, 3, none⟩ (.string a0_3)) = w119 at n0_ n1_ n2_ n3_ ⊢
                  have BK146 := n0_
                  have BK147 := n1_
                  have BK150 := n2_
                  have HB := n3_
                  clear n0_ n1_ n2_ n3_
                  have n0_ := Aside0.mk (blk_drew BK146.out)
                  have n1_ := Aside0.mk (blk_drew BK147.out)
                  have n2_ := Aside0.mk (blk_drew BK150.out)
                  have n3_ := Aside0.mk (below_drew1 HB.out)
                  clear BK146
                  clear BK147
                  clear BK150
                  clear HB
                  have BK146 := n0_
                  have BK147 := n1_
                  have BK150 := n2_
                  have HB := n3_
                  clear n0_ n1_ n2_ n3_
                  refine start_ (n := 9) (S := fun w' => w'.cell? ⟨gb146, 0, none⟩ = some (.slice A0_0 l0_0.length c0_0) ∧ w'.cell? ⟨gb146, 1, none⟩ = some (.slice A0_1 l0_1.length c0_1) ∧ w'.cell? ⟨gb146, 2, none⟩ = some (.bool a0_2) ∧ w'.cell? ⟨gb146, 3, none⟩ = some (.string a0_3) ∧ w'.cell? ⟨gb147, 0, none⟩ = some (.string a1_0) ∧ w'.cell? ⟨gb147, 1, none⟩ = some (.bool a1_1) ∧ w'.cell? ⟨gb147, 2, none⟩ = some (.bool a1_2)) (ds := []) #[false, false, false, false, false, false, false, false, false] (by kernel_rfl) rfl rfl ⟨(blk_cell BK146.out 0).trans rfl, (blk_cell BK146.out 1).trans rfl, (blk_cell BK146.out 2).trans rfl, (blk_cell BK146.out 3).trans rfl, (blk_cell BK147.out 0).trans rfl, (blk_cell BK147.out 1).trans rfl, (blk_cell BK147.out 2).trans rfl⟩ (fun hHeld => ?_); refine with_tabW doorkeeperlaw23_DecideMore.tab4 doorkeeperlaw23_DecideMore.bits4 (fun HT_ HW_ => ?_)
                  generalize w119.drew = w120 at BK146 BK147 BK150 HB hHeld ⊢
                  refine pure_ (i := 1) (N := some 33) (v := ?_) (a' := ?_) #[false, true, false, false, false, false, false, false, false] rfl rfl (any_of HT_.out (by kernel_rfl)) (fun _ _ _ h => h) (Or.inl ⟨by rfl, ?_⟩) ?_ ?_
                  rotate_left
                  · intro w'
                    go_simp
                    with_reducible rfl
                  rotate_left
                  · simp only [Act.put, List.setIfInBounds_toArray, List.set_cons_zero, List.set_cons_succ, i64_w, i32_w]
                    rfl
                  refine take_ (i := 2) (N := some 34) (v := ?_) (a' := ?_) #[false, true, true, false, false, false, false, false, false] rfl rfl (take_ofW HT_.out HW_.out (by kernel_rfl)) (fun _ _ _ h => h) (Or.inl ⟨by rfl, ?_⟩) hHeld ?_ ?_
                  rotate_left
                  · rintro w' ⟨s0, s1, s2, s3, s4, s5, s6⟩
                    go_simp
                    with_reducible rfl
                  rotate_left
                  · simp only [Act.put, List.setIfInBounds_toArray, List.set_cons_zero, List.set_cons_succ, i64_w, i32_w]
                    rfl
                  refine take_ (i := 4) (N := some 36) (v := ?_) (a' := ?_) #[false, true, true, false, true, false, false, false, false] rfl rfl (take_ofW HT_.out HW_.out (by kernel_rfl)) (fun _ _ _ h => h) (Or.inl ⟨by rfl, ?_⟩) hHeld ?_ ?_
                  rotate_left
                  · rintro w' ⟨s0, s1, s2, s3, s4, s5, s6⟩
                    go_simp
                    with_reducible rfl
                  rotate_left
                  · simp only [Act.put, List.setIfInBounds_toArray, List.set_cons_zero, List.set_cons_succ, i64_w, i32_w]
                    rfl
                  refine join_ (σ := Value × Value × Value) 3 #[true, true, true, true, true, true, false, false, false] (fun s_ => [(32, s_.1), (35, s_.2.1), (37, s_.2.2)]) (fun s_ w' => (w'.cell? ⟨gb146, 0, none⟩ = some (.slice A0_0 l0_0.length c0_0) ∧ w'.cell? ⟨gb146, 1, none⟩ = some (.slice A0_1 l0_1.length c0_1) ∧ w'.cell? ⟨gb146, 2, none⟩ = some (.bool a0_2) ∧ w'.cell? ⟨gb146, 3, none⟩ = some (.string a0_3) ∧ w'.cell? ⟨gb147, 0, none⟩ = some (.string a1_0) ∧ w'.cell? ⟨gb147, 1, none⟩ = some (.bool a1_1) ∧ w'.cell? ⟨gb147, 2, none⟩ = some (.bool a1_2)) ∧ (Kd.R k39 39 w' w.heap.size (fun k_ => some k_ ≠ (s_.2.2 : Value).ownBlock ∧ k_ ≠ gb147) s_.2.1 y154) ∧ (Kd.R k39 39 w' w.heap.size (fun k_ => some k_ ≠ (s_.2.1 : Value).ownBlock ∧ k_ ≠ gb147) s_.2.2 y157) ∧ (w'.heap[gb146]? = some (.cells #[.slice A0_0 l0_0.length c0_0, .slice A0_1 l0_1.length c0_1, .bool a0_2, .string a0_3] 30 (0, 0))) ∧ (w'.heap[gb147]? = some (.cells #[.string a1_0, .bool a1_1, .bool a1_2] 39 (0, 0))) ∧ (w'.heap[gb150]? = some (.cells #[.slice A0_0 l0_0.length c0_0, .slice A0_1 l0_1.length c0_1, .bool a0_2, .string a0_3] 30 (0, 0))) ∧ (Below w.heap.size w w')) ?_ ?_
                  rotate_left
                  · intro hCont
                    refine two_ (i := 0) (j := 5) (Ni := some 32) (Nj := some 37) #[true, true, true, false, true, false, false, false, false] #[false, true, true, false, true, true, false, false, false] rfl rfl rfl rfl (two_of HT_.out (by kernel_rfl)) (by decide) (by decide) (fun K hK => ?_) (fun K hK => ?_)
                    · skip
                      refine Kd.R_lit_step k39 _ 39 ?hg (N := 32) ?hd (xs := ([] : List (S39))) (inner := []) (ok := fun _ => True) (okp := fun _ => True) ?hr ?hp (fun _ hk => hk) trivial (Below.refl _ _) (Nat.le_refl _) (by simp) ?_; (case hd => rfl); (case hg => rfl); (case hr => first | (go_simp; done) | (go_simp; rfl)); (case hp => exact (Reps.none _ _))
                      intro v152 w121 ho122 hb hg_ hnew_
                      clear hg_ hnew_
                      (first | rw [← Ny151.out] at ho122 | (simp only [Int.reduceToNat] at ho122; rw [← Ny151.out] at ho122))
                      have n0_ := Aside0.mk (Kd.R_lower (Kd.R_newB ho122 (g := gb147) (o := .cells #[.string a1_0, .bool a1_1, .bool a1_2] 39 (0, 0)) (by (with_reducible repeat (first | refine blk_drewN ?_ _ | refine blk_drew ?_ | refine blk_alloc ?_ _)); exact BK147.out)) (below_size (by repeat (first | (with_reducible first | exact HB.out | apply below_alloc | apply pw_below_drewN | apply below_drew1 | refine below_set ?_ GE146.out | refine below_set ?_ GE147.out | refine below_set ?_ GE150.out) | exact HB.out))))
                      have n1_ := Aside0.mk (blk_below (g := gb146) (o := .cells #[.slice A0_0 l0_0.length c0_0, .slice A0_1 l0_1.length c0_1, .bool a0_2, .string a0_3] 30 (0, 0)) (by (with_reducible repeat (first | refine blk_drewN ?_ _ | refine blk_drew ?_ | refine blk_alloc ?_ _)); exact BK146.out) hb)
                      have n2_ := Aside0.mk (blk_below (g := gb147) (o := .cells #[.string a1_0, .bool a1_1, .bool a1_2] 39 (0, 0)) (by (with_reducible repeat (first | refine blk_drewN ?_ _ | refine blk_drew ?_ | refine blk_alloc ?_ _)); exact BK147.out) hb)
                      have n3_ := Aside0.mk (blk_below (g := gb150) (o := .cells #[.slice A0_0 l0_0.length c0_0, .slice A0_1 l0_1.length c0_1, .bool a0_2, .string a0_3] 30 (0, 0)) (by (with_reducible repeat (first | refine blk_drewN ?_ _ | refine blk_drew ?_ | refine blk_alloc ?_ _)); exact BK150.out) hb)
                      have n4_ := Aside0.mk (below_step (by repeat (first | (with_reducible first | exact HB.out | apply below_alloc | apply pw_below_drewN | apply below_drew1 | refine below_set ?_ GE146.out | refine below_set ?_ GE147.out | refine below_set ?_ GE150.out) | exact HB.out)) hb)
                      clear BK146
                      clear BK147
                      clear BK150
                      clear HB
                      have HO153 := n0_
                      have BK146 := n1_
                      have BK147 := n2_
                      have BK150 := n3_
                      have HB := n4_
                      clear n0_ n1_ n2_ n3_ n4_
                      clear hb ho122
                      refine hK.out _ _ ⟨(blk_cell BK146.out 0).trans rfl, (blk_cell BK146.out 1).trans rfl, (blk_cell BK146.out 2).trans rfl, (blk_cell BK146.out 3).trans rfl, (blk_cell BK147.out 0).trans rfl, (blk_cell BK147.out 1).trans rfl, (blk_cell BK147.out 2).trans rfl⟩ (fun hHeld => ?_)
                      clear hK K
                      refine norm_ (a' := ?_) ?_ ?_
                      rotate_left
                      · show Act.put _ (some 32) _ = _
                        simp only [Act.put, List.setIfInBounds_toArray, List.set_cons_zero, List.set_cons_succ, i64_w, i32_w]
                        rfl
                      refine two_ (i := 3) (j := 5) (Ni := some 35) (Nj := some 37) #[true, true, true, true, true, false, false, false, false] #[true, true, true, false, true, true, false, false, false] rfl rfl rfl rfl (two_of HT_.out (by kernel_rfl)) (by decide) (by decide) (fun K hK => ?_) (fun K hK => ?_)
                      · skip
                        refine Kd.R_append_rows_step k39 (w0 := w) w.heap.size (by rfl) (.tmp 32) (.tmp 34) 28 39 (.agg #[(.string ⟨#[]⟩), (.bool false), (.bool false)]) 24 rfl Tryd.underlying28 info39 rfl (by decide) (by omega) v152 y151 l0_1 _ _ _ (fun k_ => k_ ≠ gb147) (fun _ => False) rfl rfl ?aO ?aR (fun _ _ h => h) (fun _ h => h.elim) ?aF ?aB ?aS ?aL ?_
                        (case aR => repeat (first | exact (Kd.C_below HR0_1.out HB.out) | (with_reducible refine Kd.C_alloc ?_ _) | (with_reducible refine Kd.C_drewN ?_ _) | (with_reducible refine Kd.C_drew ?_)))
                        (case aB => exact (by repeat (first | (with_reducible first | exact HB.out | apply below_alloc | apply pw_below_drewN | apply below_drew1 | refine below_set ?_ GE146.out | refine below_set ?_ GE147.out | refine below_set ?_ GE150.out) | exact HB.out)))
                        (case aF => exact (fun k_ hk => Kd.freshB (g := gb147) (o := .cells #[.string a1_0, .bool a1_1, .bool a1_2] 39 (0, 0)) (by (with_reducible repeat (first | refine blk_drewN ?_ _ | refine blk_drew ?_ | refine blk_alloc ?_ _)); exact BK147.out) k_ hk))
                        (case aO => exact (by (with_reducible repeat (first | apply Kd.R_alloc | apply Kd.R_drewN | apply Kd.R_drew)); exact Kd.R_mono HO153.out (fun _ hk => hk.2)))
                        (case aS => exact (below_size (by repeat (first | (with_reducible first | exact HB.out | apply below_alloc | apply pw_below_drewN | apply below_drew1 | refine below_set ?_ GE146.out | refine below_set ?_ GE147.out | refine below_set ?_ GE150.out) | exact HB.out))))
                        (case aL => have := LMc25.out; omega)
                        intro v155 w123 ho hb hg hat
                        rw [← Ny154.out] at ho
                        have n0_ := Aside0.mk (blk_grown (g := gb146) (o := .cells #[.slice A0_0 l0_0.length c0_0, .slice A0_1 l0_1.length c0_1, .bool a0_2, .string a0_3] 30 (0, 0)) (by (with_reducible repeat (first | refine blk_drewN ?_ _ | refine blk_drew ?_ | refine blk_alloc ?_ _)); exact BK146.out) hg (Kd.R_ne HO153.out BK146.out (by decide)))
                        have n1_ := Aside0.mk (blk_grown (g := gb147) (o := .cells #[.string a1_0, .bool a1_1, .bool a1_2] 39 (0, 0)) (by (with_reducible repeat (first | refine blk_drewN ?_ _ | refine blk_drew ?_ | refine blk_alloc ?_ _)); exact BK147.out) hg (Kd.R_away HO153.out (fun _ hk => hk.2)))
                        have n2_ := Aside0.mk (blk_grown (g := gb150) (o := .cells #[.slice A0_0 l0_0.length c0_0, .slice A0_1 l0_1.length c0_1, .bool a0_2, .string a0_3] 30 (0, 0)) (by (with_reducible repeat (first | refine blk_drewN ?_ _ | refine blk_drew ?_ | refine blk_alloc ?_ _)); exact BK150.out) hg (Kd.R_ne HO153.out BK150.out (by decide)))
                        have n3_ := Aside0.mk (hb)
                        have n4_ := Aside0.mk (ho)
                        clear BK146
                        clear BK147
                        clear BK150
                        clear HB
                        clear HO153
                        have BK146 := n0_
                        have BK147 := n1_
                        have BK150 := n2_
                        have HB := n3_
                        have HO156 := n4_
                        clear n0_ n1_ n2_ n3_ n4_
                        clear ho hb hg hat
                        refine hK.out _ _ ⟨(blk_cell BK146.out 0).trans rfl, (blk_cell BK146.out 1).trans rfl, (blk_cell BK146.out 2).trans rfl, (blk_cell BK146.out 3).trans rfl, (blk_cell BK147.out 0).trans rfl, (blk_cell BK147.out 1).trans rfl, (blk_cell BK147.out 2).trans rfl⟩ (fun hHeld => ?_)
                        clear hK K
                        refine norm_ (a' := ?_) ?_ ?_
                        rotate_left
                        · show Act.put _ (some 35) _ = _
                          simp only [Act.put, List.setIfInBounds_toArray, List.set_cons_zero, List.set_cons_succ, i64_w, i32_w]
                          rfl
                        refine one_ (i := 5) (N := some 37) #[true, true, true, true, true, true, false, false, false] rfl rfl (one_of HT_.out (by kernel_rfl)) (by decide) (fun K hK => ?_)
                        refine Kd.R_lit_step k39 _ 39 ?hg (N := 37) ?hd (xs := ([(⟨a1_0, a1_1, a1_2⟩ : S39)] : List (S39))) (inner := [.string a1_0, .bool a1_1, .bool a1_2]) (ok := fun _ => True) (okp := fun _ => True) ?hr ?hp (fun _ hk => hk) trivial (Below.refl _ _) (Nat.le_refl _) (by simp) ?_; (case hd => rfl); (case hg => rfl); (case hr => first | (go_simp; done) | (go_simp; rfl)); (case hp => exact (Reps.c3 (show Kd.M k39 _ _ _ (⟨a1_0, a1_1, a1_2⟩ : S39) [.string a1_0, .bool a1_1, .bool a1_2] from (k39_mkM _ _ _ (⟨a1_0, a1_1, a1_2⟩ : S39) )) (Reps.none _ _)))
                        intro v158 w124 ho125 hb hg_ hnew_
                        clear hg_ hnew_
                        (first | rw [← Ny157.out] at ho125 | (simp only [Int.reduceToNat] at ho125; rw [← Ny157.out] at ho125))
                        have n0_ := Aside0.mk (Kd.R_elder' (by (with_reducible repeat (first | apply Kd.R_alloc | apply Kd.R_drewN | apply Kd.R_drew)); exact HO156.out) (Kd.R_base ho125) hb)
                        have n1_ := Aside0.mk (Kd.R_lower (Kd.R_newB (Kd.R_new' ho125 (Kd.R_lt (by (with_reducible repeat (first | apply Kd.R_alloc | apply Kd.R_drewN | apply Kd.R_drew)); exact HO156.out))) (g := gb147) (o := .cells #[.string a1_0, .bool a1_1, .bool a1_2] 39 (0, 0)) (by (with_reducible repeat (first | refine blk_drewN ?_ _ | refine blk_drew ?_ | refine blk_alloc ?_ _)); exact BK147.out)) (below_size (by repeat (first | (with_reducible first | exact HB.out | apply below_alloc | apply pw_below_drewN | apply below_drew1 | refine below_set ?_ GE146.out | refine below_set ?_ GE147.out | refine below_set ?_ GE150.out) | exact HB.out))))
                        have n2_ := Aside0.mk (blk_below (g := gb146) (o := .cells #[.slice A0_0 l0_0.length c0_0, .slice A0_1 l0_1.length c0_1, .bool a0_2, .string a0_3] 30 (0, 0)) (by (with_reducible repeat (first | refine blk_drewN ?_ _ | refine blk_drew ?_ | refine blk_alloc ?_ _)); exact BK146.out) hb)
                        have n3_ := Aside0.mk (blk_below (g := gb147) (o := .cells #[.string a1_0, .bool a1_1, .bool a1_2] 39 (0, 0)) (by (with_reducible repeat (first | refine blk_drewN ?_ _ | refine blk_drew ?_ | refine blk_alloc ?_ _)); exact BK147.out) hb)
                        have n4_ := Aside0.mk (blk_below (g := gb150) (o := .cells #[.slice A0_0 l0_0.length c0_0, .slice A0_1 l0_1.length c0_1, .bool a0_2, .string a0_3] 30 (0, 0)) (by (with_reducible repeat (first | refine blk_drewN ?_ _ | refine blk_drew ?_ | refine blk_alloc ?_ _)); exact BK150.out) hb)
                        have n5_ := Aside0.mk (below_step (by repeat (first | (with_reducible first | exact HB.out | apply below_alloc | apply pw_below_drewN | apply below_drew1 | refine below_set ?_ GE146.out | refine below_set ?_ GE147.out | refine below_set ?_ GE150.out) | exact HB.out)) hb)
                        clear HO156
                        clear BK146
                        clear BK147
                        clear BK150
                        clear HB
                        have HO156 := n0_
                        have HO159 := n1_
                        have BK146 := n2_
                        have BK147 := n3_
                        have BK150 := n4_
                        have HB := n5_
                        clear n0_ n1_ n2_ n3_ n4_ n5_
                        clear hb ho125
                        refine hK.out _ _ ⟨(blk_cell BK146.out 0).trans rfl, (blk_cell BK146.out 1).trans rfl, (blk_cell BK146.out 2).trans rfl, (blk_cell BK146.out 3).trans rfl, (blk_cell BK147.out 0).trans rfl, (blk_cell BK147.out 1).trans rfl, (blk_cell BK147.out 2).trans rfl⟩ (fun hHeld => ?_)
                        clear hK K
                        refine norm_ (a' := ?_) ?_ ?_
                        rotate_left
                        · show Act.put _ (some 37) _ = _
                          simp only [Act.put, List.setIfInBounds_toArray, List.set_cons_zero, List.set_cons_succ, i64_w, i32_w]
                          rfl
                        exact norm_ (by simp only [putAll, Act.put, List.setIfInBounds_toArray, List.set_cons_zero, List.set_cons_succ]) (hCont (v152, v155, v158) _ ⟨hHeld, (by (with_reducible repeat (first | apply Kd.R_alloc | apply Kd.R_drewN | apply Kd.R_drew)); exact Kd.R_mono HO156.out (fun _ hk => ⟨hk.2, hk.1⟩)), (by (with_reducible repeat (first | apply Kd.R_alloc | apply Kd.R_drewN | apply Kd.R_drew)); exact Kd.R_mono HO159.out (fun _ hk => ⟨hk.1.2, hk.2⟩)), (by (with_reducible repeat (first | refine blk_drewN ?_ _ | refine blk_drew ?_ | refine blk_alloc ?_ _)); exact BK146.out), (by (with_reducible repeat (first | refine blk_drewN ?_ _ | refine blk_drew ?_ | refine blk_alloc ?_ _)); exact BK147.out), (by (with_reducible repeat (first | refine blk_drewN ?_ _ | refine blk_drew ?_ | refine blk_alloc ?_ _)); exact BK150.out), (by repeat (first | (with_reducible first | exact HB.out | apply below_alloc | apply pw_below_drewN | apply below_drew1 | refine below_set ?_ GE146.out | refine below_set ?_ GE147.out | refine below_set ?_ GE150.out) | exact HB.out))⟩)
                      · skip
                        refine Kd.R_lit_step k39 _ 39 ?hg (N := 37) ?hd (xs := ([(⟨a1_0, a1_1, a1_2⟩ : S39)] : List (S39))) (inner := [.string a1_0, .bool a1_1, .bool a1_2]) (ok := fun _ => True) (okp := fun _ => True) ?hr ?hp (fun _ hk => hk) trivial (Below.refl _ _) (Nat.le_refl _) (by simp) ?_; (case hd => rfl); (case hg => rfl); (case hr => first | (go_simp; done) | (go_simp; rfl)); (case hp => exact (Reps.c3 (show Kd.M k39 _ _ _ (⟨a1_0, a1_1, a1_2⟩ : S39) [.string a1_0, .bool a1_1, .bool a1_2] from (k39_mkM _ _ _ (⟨a1_0, a1_1, a1_2⟩ : S39) )) (Reps.none _ _)))
                        intro v158 w123 ho124 hb hg_ hnew_
                        clear hg_ hnew_
                        (first | rw [← Ny157.out] at ho124 | (simp only [Int.reduceToNat] at ho124; rw [← Ny157.out] at ho124))
                        have n0_ := Aside0.mk (Kd.R_elder' (by (with_reducible repeat (first | apply Kd.R_alloc | apply Kd.R_drewN | apply Kd.R_drew)); exact HO153.out) (Kd.R_base ho124) hb)
                        have n1_ := Aside0.mk (Kd.R_lower (Kd.R_newB (Kd.R_new' ho124 (Kd.R_lt (by (with_reducible repeat (first | apply Kd.R_alloc | apply Kd.R_drewN | apply Kd.R_drew)); exact HO153.out))) (g := gb147) (o := .cells #[.string a1_0, .bool a1_1, .bool a1_2] 39 (0, 0)) (by (with_reducible repeat (first | refine blk_drewN ?_ _ | refine blk_drew ?_ | refine blk_alloc ?_ _)); exact BK147.out)) (below_size (by repeat (first | (with_reducible first | exact HB.out | apply below_alloc | apply pw_below_drewN | apply below_drew1 | refine below_set ?_ GE146.out | refine below_set ?_ GE147.out | refine below_set ?_ GE150.out) | exact HB.out))))
                        have n2_ := Aside0.mk (blk_below (g := gb146) (o := .cells #[.slice A0_0 l0_0.length c0_0, .slice A0_1 l0_1.length c0_1, .bool a0_2, .string a0_3] 30 (0, 0)) (by (with_reducible repeat (first | refine blk_drewN ?_ _ | refine blk_drew ?_ | refine blk_alloc ?_ _)); exact BK146.out) hb)
                        have n3_ := Aside0.mk (blk_below (g := gb147) (o := .cells #[.string a1_0, .bool a1_1, .bool a1_2] 39 (0, 0)) (by (with_reducible repeat (first | refine blk_drewN ?_ _ | refine blk_drew ?_ | refine blk_alloc ?_ _)); exact BK147.out) hb)
                        have n4_ := Aside0.mk (blk_below (g := gb150) (o := .cells #[.slice A0_0 l0_0.length c0_0, .slice A0_1 l0_1.length c0_1, .bool a0_2, .string a0_3] 30 (0, 0)) (by (with_reducible repeat (first | refine blk_drewN ?_ _ | refine blk_drew ?_ | refine blk_alloc ?_ _)); exact BK150.out) hb)
                        have n5_ := Aside0.mk (below_step (by repeat (first | (with_reducible first | exact HB.out | apply below_alloc | apply pw_below_drewN | apply below_drew1 | refine below_set ?_ GE146.out | refine below_set ?_ GE147.out | refine below_set ?_ GE150.out) | exact HB.out)) hb)
                        clear HO153
                        clear BK146
                        clear BK147
                        clear BK150
                        clear HB
                        have HO153 := n0_
                        have HO159 := n1_
                        have BK146 := n2_
                        have BK147 := n3_
                        have BK150 := n4_
                        have HB := n5_
                        clear n0_ n1_ n2_ n3_ n4_ n5_
                        clear hb ho124
                        refine hK.out _ _ ⟨(blk_cell BK146.out 0).trans rfl, (blk_cell BK146.out 1).trans rfl, (blk_cell BK146.out 2).trans rfl, (blk_cell BK146.out 3).trans rfl, (blk_cell BK147.out 0).trans rfl, (blk_cell BK147.out 1).trans rfl, (blk_cell BK147.out 2).trans rfl⟩ (fun hHeld => ?_)
                        clear hK K
                        refine norm_ (a' := ?_) ?_ ?_
                        rotate_left
                        · show Act.put _ (some 37) _ = _
                          simp only [Act.put, List.setIfInBounds_toArray, List.set_cons_zero, List.set_cons_succ, i64_w, i32_w]
                          rfl
                        refine one_ (i := 3) (N := some 35) #[true, true, true, true, true, true, false, false, false] rfl rfl (one_of HT_.out (by kernel_rfl)) (by decide) (fun K hK => ?_)
                        refine Kd.R_append_rows_step k39 (w0 := w) w.heap.size (by rfl) (.tmp 32) (.tmp 34) 28 39 (.agg #[(.string ⟨#[]⟩), (.bool false), (.bool false)]) 24 rfl Tryd.underlying28 info39 rfl (by decide) (by omega) v152 y151 l0_1 _ _ _ (fun k_ => some k_ ≠ (v158 : Value).ownBlock ∧ k_ ≠ gb147) (fun _ => False) rfl rfl ?aO ?aR (fun _ _ h => h) (fun _ h => h.elim) ?aF ?aB ?aS ?aL ?_
                        (case aR => repeat (first | exact (Kd.C_below HR0_1.out HB.out) | (with_reducible refine Kd.C_alloc ?_ _) | (with_reducible refine Kd.C_drewN ?_ _) | (with_reducible refine Kd.C_drew ?_)))
                        (case aB => exact (by repeat (first | (with_reducible first | exact HB.out | apply below_alloc | apply pw_below_drewN | apply below_drew1 | refine below_set ?_ GE146.out | refine below_set ?_ GE147.out | refine below_set ?_ GE150.out) | exact HB.out)))
                        (case aF => exact (fun k_ hk => ⟨Kd.fresh' (Kd.R_lt (by (with_reducible repeat (first | apply Kd.R_alloc | apply Kd.R_drewN | apply Kd.R_drew)); exact HO159.out)) k_ hk, Kd.freshB (g := gb147) (o := .cells #[.string a1_0, .bool a1_1, .bool a1_2] 39 (0, 0)) (by (with_reducible repeat (first | refine blk_drewN ?_ _ | refine blk_drew ?_ | refine blk_alloc ?_ _)); exact BK147.out) k_ hk⟩))
                        (case aO => exact (by (with_reducible repeat (first | apply Kd.R_alloc | apply Kd.R_drewN | apply Kd.R_drew)); exact Kd.R_mono HO153.out (fun _ hk => ⟨hk.2, hk.1.2⟩)))
                        (case aS => exact (below_size (by repeat (first | (with_reducible first | exact HB.out | apply below_alloc | apply pw_below_drewN | apply below_drew1 | refine below_set ?_ GE146.out | refine below_set ?_ GE147.out | refine below_set ?_ GE150.out) | exact HB.out))))
                        (case aL => have := LMc25.out; omega)
                        intro v155 w125 ho hb hg hat
                        rw [← Ny154.out] at ho
                        have n0_ := Aside0.mk (blk_grown (g := gb146) (o := .cells #[.slice A0_0 l0_0.length c0_0, .slice A0_1 l0_1.length c0_1, .bool a0_2, .string a0_3] 30 (0, 0)) (by (with_reducible repeat (first | refine blk_drewN ?_ _ | refine blk_drew ?_ | refine blk_alloc ?_ _)); exact BK146.out) hg (Kd.R_ne HO153.out BK146.out (by decide)))
                        have n1_ := Aside0.mk (blk_grown (g := gb147) (o := .cells #[.string a1_0, .bool a1_1, .bool a1_2] 39 (0, 0)) (by (with_reducible repeat (first | refine blk_drewN ?_ _ | refine blk_drew ?_ | refine blk_alloc ?_ _)); exact BK147.out) hg (Kd.R_away HO153.out (fun _ hk => hk.1.2)))
                        have n2_ := Aside0.mk (blk_grown (g := gb150) (o := .cells #[.slice A0_0 l0_0.length c0_0, .slice A0_1 l0_1.length c0_1, .bool a0_2, .string a0_3] 30 (0, 0)) (by (with_reducible repeat (first | refine blk_drewN ?_ _ | refine blk_drew ?_ | refine blk_alloc ?_ _)); exact BK150.out) hg (Kd.R_ne HO153.out BK150.out (by decide)))
                        have n3_ := Aside0.mk (Kd.R_after (ok := (fun k_ => k_ ≠ gb147)) (by (with_reducible repeat (first | apply Kd.R_alloc | apply Kd.R_drewN | apply Kd.R_drew)); exact Kd.R_mono HO159.out (fun _ hk => ⟨hk.2, hk.1.2⟩)) hg hat)
                        have n4_ := Aside0.mk (hb)
                        have n5_ := Aside0.mk (ho)
                        clear BK146
                        clear BK147
                        clear BK150
                        clear HO159
                        clear HB
                        clear HO153
                        have BK146 := n0_
                        have BK147 := n1_
                        have BK150 := n2_
                        have HO159 := n3_
                        have HB := n4_
                        have HO156 := n5_
                        clear n0_ n1_ n2_ n3_ n4_ n5_
                        clear ho hb hg hat
                        refine hK.out _ _ ⟨(blk_cell BK146.out 0).trans rfl, (blk_cell BK146.out 1).trans rfl, (blk_cell BK146.out 2).trans rfl, (blk_cell BK146.out 3).trans rfl, (blk_cell BK147.out 0).trans rfl, (blk_cell BK147.out 1).trans rfl, (blk_cell BK147.out 2).trans rfl⟩ (fun hHeld => ?_)
                        clear hK K
                        refine norm_ (a' := ?_) ?_ ?_
                        rotate_left
                        · show Act.put _ (some 35) _ = _
                          simp only [Act.put, List.setIfInBounds_toArray, List.set_cons_zero, List.set_cons_succ, i64_w, i32_w]
                          rfl
                        exact norm_ (by simp only [putAll, Act.put, List.setIfInBounds_toArray, List.set_cons_zero, List.set_cons_succ]) (hCont (v152, v155, v158) _ ⟨hHeld, (by (with_reducible repeat (first | apply Kd.R_alloc | apply Kd.R_drewN | apply Kd.R_drew)); exact HO156.out), (by (with_reducible repeat (first | apply Kd.R_alloc | apply Kd.R_drewN | apply Kd.R_drew)); exact Kd.R_mono HO159.out (fun _ hk => ⟨hk.2, hk.1⟩)), (by (with_reducible repeat (first | refine blk_drewN ?_ _ | refine blk_drew ?_ | refine blk_alloc ?_ _)); exact BK146.out), (by (with_reducible repeat (first | refine blk_drewN ?_ _ | refine blk_drew ?_ | refine blk_alloc ?_ _)); exact BK147.out), (by (with_reducible repeat (first | refine blk_drewN ?_ _ | refine blk_drew ?_ | refine blk_alloc ?_ _)); exact BK150.out), (by repeat (first | (with_reducible first | exact HB.out | apply below_alloc | apply pw_below_drewN | apply below_drew1 | refine below_set ?_ GE146.out | refine below_set ?_ GE147.out | refine below_set ?_ GE150.out) | exact HB.out))⟩)
                    · skip
                      refine Kd.R_lit_step k39 _ 39 ?hg (N := 37) ?hd (xs := ([(⟨a1_0, a1_1, a1_2⟩ : S39)] : List (S39))) (inner := [.string a1_0, .bool a1_1, .bool a1_2]) (ok := fun _ => True) (okp := fun _ => True) ?hr ?hp (fun _ hk => hk) trivial (Below.refl _ _) (Nat.le_refl _) (by simp) ?_; (case hd => rfl); (case hg => rfl); (case hr => first | (go_simp; done) | (go_simp; rfl)); (case hp => exact (Reps.c3 (show Kd.M k39 _ _ _ (⟨a1_0, a1_1, a1_2⟩ : S39) [.string a1_0, .bool a1_1, .bool a1_2] from (k39_mkM _ _ _ (⟨a1_0, a1_1, a1_2⟩ : S39) )) (Reps.none _ _)))
                      intro v158 w121 ho122 hb hg_ hnew_
                      clear hg_ hnew_
                      (first | rw [← Ny157.out] at ho122 | (simp only [Int.reduceToNat] at ho122; rw [← Ny157.out] at ho122))
                      have n0_ := Aside0.mk (Kd.R_lower (Kd.R_newB ho122 (g := gb147) (o := .cells #[.string a1_0, .bool a1_1, .bool a1_2] 39 (0, 0)) (by (with_reducible repeat (first | refine blk_drewN ?_ _ | refine blk_drew ?_ | refine blk_alloc ?_ _)); exact BK147.out)) (below_size (by repeat (first | (with_reducible first | exact HB.out | apply below_alloc | apply pw_below_drewN | apply below_drew1 | refine below_set ?_ GE146.out | refine below_set ?_ GE147.out | refine below_set ?_ GE150.out) | exact HB.out))))
                      have n1_ := Aside0.mk (blk_below (g := gb146) (o := .cells #[.slice A0_0 l0_0.length c0_0, .slice A0_1 l0_1.length c0_1, .bool a0_2, .string a0_3] 30 (0, 0)) (by (with_reducible repeat (first | refine blk_drewN ?_ _ | refine blk_drew ?_ | refine blk_alloc ?_ _)); exact BK146.out) hb)
                      have n2_ := Aside0.mk (blk_below (g := gb147) (o := .cells #[.string a1_0, .bool a1_1, .bool a1_2] 39 (0, 0)) (by (with_reducible repeat (first | refine blk_drewN ?_ _ | refine blk_drew ?_ | refine blk_alloc ?_ _)); exact BK147.out) hb)
                      have n3_ := Aside0.mk (blk_below (g := gb150) (o := .cells #[.slice A0_0 l0_0.length c0_0, .slice A0_1 l0_1.length c0_1, .bool a0_2, .string a0_3] 30 (0, 0)) (by (with_reducible repeat (first | refine blk_drewN ?_ _ | refine blk_drew ?_ | refine blk_alloc ?_ _)); exact BK150.out) hb)
                      have n4_ := Aside0.mk (below_step (by repeat (first | (with_reducible first | exact HB.out | apply below_alloc | apply pw_below_drewN | apply below_drew1 | refine below_set ?_ GE146.out | refine below_set ?_ GE147.out | refine below_set ?_ GE150.out) | exact HB.out)) hb)
                      clear BK146
                      clear BK147
                      clear BK150
                      clear HB
                      have HO159 := n0_
                      have BK146 := n1_
                      have BK147 := n2_
                      have BK150 := n3_
                      have HB := n4_
                      clear n0_ n1_ n2_ n3_ n4_
                      clear hb ho122
                      refine hK.out _ _ ⟨(blk_cell BK146.out 0).trans rfl, (blk_cell BK146.out 1).trans rfl, (blk_cell BK146.out 2).trans rfl, (blk_cell BK146.out 3).trans rfl, (blk_cell BK147.out 0).trans rfl, (blk_cell BK147.out 1).trans rfl, (blk_cell BK147.out 2).trans rfl⟩ (fun hHeld => ?_)
                      clear hK K
                      refine norm_ (a' := ?_) ?_ ?_
                      rotate_left
                      · show Act.put _ (some 37) _ = _
                        simp only [Act.put, List.setIfInBounds_toArray, List.set_cons_zero, List.set_cons_succ, i64_w, i32_w]
                        rfl
                      refine one_ (i := 0) (N := some 32) #[true, true, true, false, true, true, false, false, false] rfl rfl (one_of HT_.out (by kernel_rfl)) (by decide) (fun K hK => ?_)
                      refine Kd.R_lit_step k39 _ 39 ?hg (N := 32) ?hd (xs := ([] : List (S39))) (inner := []) (ok := fun _ => True) (okp := fun _ => True) ?hr ?hp (fun _ hk => hk) trivial (Below.refl _ _) (Nat.le_refl _) (by simp) ?_; (case hd => rfl); (case hg => rfl); (case hr => first | (go_simp; done) | (go_simp; rfl)); (case hp => exact (Reps.none _ _))
                      intro v152 w123 ho124 hb hg_ hnew_
                      clear hg_ hnew_
                      (first | rw [← Ny151.out] at ho124 | (simp only [Int.reduceToNat] at ho124; rw [← Ny151.out] at ho124))
                      have n0_ := Aside0.mk (Kd.R_elder' (by (with_reducible repeat (first | apply Kd.R_alloc | apply Kd.R_drewN | apply Kd.R_drew)); exact HO159.out) (Kd.R_base ho124) hb)
                      have n1_ := Aside0.mk (Kd.R_lower (Kd.R_newB (Kd.R_new' ho124 (Kd.R_lt (by (with_reducible repeat (first | apply Kd.R_alloc | apply Kd.R_drewN | apply Kd.R_drew)); exact HO159.out))) (g := gb147) (o := .cells #[.string a1_0, .bool a1_1, .bool a1_2] 39 (0, 0)) (by (with_reducible repeat (first | refine blk_drewN ?_ _ | refine blk_drew ?_ | refine blk_alloc ?_ _)); exact BK147.out)) (below_size (by repeat (first | (with_reducible first | exact HB.out | apply below_alloc | apply pw_below_drewN | apply below_drew1 | refine below_set ?_ GE146.out | refine below_set ?_ GE147.out | refine below_set ?_ GE150.out) | exact HB.out))))
                      have n2_ := Aside0.mk (blk_below (g := gb146) (o := .cells #[.slice A0_0 l0_0.length c0_0, .slice A0_1 l0_1.length c0_1, .bool a0_2, .string a0_3] 30 (0, 0)) (by (with_reducible repeat (first | refine blk_drewN ?_ _ | refine blk_drew ?_ | refine blk_alloc ?_ _)); exact BK146.out) hb)
                      have n3_ := Aside0.mk (blk_below (g := gb147) (o := .cells #[.string a1_0, .bool a1_1, .bool a1_2] 39 (0, 0)) (by (with_reducible repeat (first | refine blk_drewN ?_ _ | refine blk_drew ?_ | refine blk_alloc ?_ _)); exact BK147.out) hb)
                      have n4_ := Aside0.mk (blk_below (g := gb150) (o := .cells #[.slice A0_0 l0_0.length c0_0, .slice A0_1 l0_1.length c0_1, .bool a0_2, .string a0_3] 30 (0, 0)) (by (with_reducible repeat (first | refine blk_drewN ?_ _ | refine blk_drew ?_ | refine blk_alloc ?_ _)); exact BK150.out) hb)
                      have n5_ := Aside0.mk (below_step (by repeat (first | (with_reducible first | exact HB.out | apply below_alloc | apply pw_below_drewN | apply below_drew1 | refine below_set ?_ GE146.out | refine below_set ?_ GE147.out | refine below_set ?_ GE150.out) | exact HB.out)) hb)
                      clear HO159
                      clear BK146
                      clear BK147
                      clear BK150
                      clear HB
                      have HO159 := n0_
                      have HO153 := n1_
                      have BK146 := n2_
                      have BK147 := n3_
                      have BK150 := n4_
                      have HB := n5_
                      clear n0_ n1_ n2_ n3_ n4_ n5_
                      clear hb ho124
                      refine hK.out _ _ ⟨(blk_cell BK146.out 0).trans rfl, (blk_cell BK146.out 1).trans rfl, (blk_cell BK146.out 2).trans rfl, (blk_cell BK146.out 3).trans rfl, (blk_cell BK147.out 0).trans rfl, (blk_cell BK147.out 1).trans rfl, (blk_cell BK147.out 2).trans rfl⟩ (fun hHeld => ?_)
                      clear hK K
                      refine norm_ (a' := ?_) ?_ ?_
                      rotate_left
                      · show Act.put _ (some 32) _ = _
                        simp only [Act.put, List.setIfInBounds_toArray, List.set_cons_zero, List.set_cons_succ, i64_w, i32_w]
                        rfl
                      refine one_ (i := 3) (N := some 35) #[true, true, true, true, true, true, false, false, false] rfl rfl (one_of HT_.out (by kernel_rfl)) (by decide) (fun K hK => ?_)
                      refine Kd.R_append_rows_step k39 (w0 := w) w.heap.size (by rfl) (.tmp 32) (.tmp 34) 28 39 (.agg #[(.string ⟨#[]⟩), (.bool false), (.bool false)]) 24 rfl Tryd.underlying28 info39 rfl (by decide) (by omega) v152 y151 l0_1 _ _ _ (fun k_ => some k_ ≠ (v158 : Value).ownBlock ∧ k_ ≠ gb147) (fun _ => False) rfl rfl ?aO ?aR (fun _ _ h => h) (fun _ h => h.elim) ?aF ?aB ?aS ?aL ?_
                      (case aR => repeat (first | exact (Kd.C_below HR0_1.out HB.out) | (with_reducible refine Kd.C_alloc ?_ _) | (with_reducible refine Kd.C_drewN ?_ _) | (with_reducible refine Kd.C_drew ?_)))
                      (case aB => exact (by repeat (first | (with_reducible first | exact HB.out | apply below_alloc | apply pw_below_drewN | apply below_drew1 | refine below_set ?_ GE146.out | refine below_set ?_ GE147.out | refine below_set ?_ GE150.out) | exact HB.out)))
                      (case aF => exact (fun k_ hk => ⟨Kd.fresh' (Kd.R_lt (by (with_reducible repeat (first | apply Kd.R_alloc | apply Kd.R_drewN | apply Kd.R_drew)); exact HO159.out)) k_ hk, Kd.freshB (g := gb147) (o := .cells #[.string a1_0, .bool a1_1, .bool a1_2] 39 (0, 0)) (by (with_reducible repeat (first | refine blk_drewN ?_ _ | refine blk_drew ?_ | refine blk_alloc ?_ _)); exact BK147.out) k_ hk⟩))
                      (case aO => exact (by (with_reducible repeat (first | apply Kd.R_alloc | apply Kd.R_drewN | apply Kd.R_drew)); exact Kd.R_mono HO153.out (fun _ hk => ⟨hk.1.2, hk.2⟩)))
                      (case aS => exact (below_size (by repeat (first | (with_reducible first | exact HB.out | apply below_alloc | apply pw_below_drewN | apply below_drew1 | refine below_set ?_ GE146.out | refine below_set ?_ GE147.out | refine below_set ?_ GE150.out) | exact HB.out))))
                      (case aL => have := LMc25.out; omega)
                      intro v155 w125 ho hb hg hat
                      rw [← Ny154.out] at ho
                      have n0_ := Aside0.mk (blk_grown (g := gb146) (o := .cells #[.slice A0_0 l0_0.length c0_0, .slice A0_1 l0_1.length c0_1, .bool a0_2, .string a0_3] 30 (0, 0)) (by (with_reducible repeat (first | refine blk_drewN ?_ _ | refine blk_drew ?_ | refine blk_alloc ?_ _)); exact BK146.out) hg (Kd.R_ne HO153.out BK146.out (by decide)))
                      have n1_ := Aside0.mk (blk_grown (g := gb147) (o := .cells #[.string a1_0, .bool a1_1, .bool a1_2] 39 (0, 0)) (by (with_reducible repeat (first | refine blk_drewN ?_ _ | refine blk_drew ?_ | refine blk_alloc ?_ _)); exact BK147.out) hg (Kd.R_away HO153.out (fun _ hk => hk.2)))
                      have n2_ := Aside0.mk (blk_grown (g := gb150) (o := .cells #[.slice A0_0 l0_0.length c0_0, .slice A0_1 l0_1.length c0_1, .bool a0_2, .string a0_3] 30 (0, 0)) (by (with_reducible repeat (first | refine blk_drewN ?_ _ | refine blk_drew ?_ | refine blk_alloc ?_ _)); exact BK150.out) hg (Kd.R_ne HO153.out BK150.out (by decide)))
                      have n3_ := Aside0.mk (Kd.R_after (ok := (fun k_ => k_ ≠ gb147)) (by (with_reducible repeat (first | apply Kd.R_alloc | apply Kd.R_drewN | apply Kd.R_drew)); exact Kd.R_mono HO159.out (fun _ hk => ⟨hk.1.2, hk.2⟩)) hg hat)
                      have n4_ := Aside0.mk (hb)
                      have n5_ := Aside0.mk (ho)
                      clear BK146
                      clear BK147
                      clear BK150
                      clear HO159
                      clear HB
                      clear HO153
                      have BK146 := n0_
                      have BK147 := n1_
                      have BK150 := n2_
                      have HO159 := n3_
                      have HB := n4_
                      have HO156 := n5_
                      clear n0_ n1_ n2_ n3_ n4_ n5_
                      clear ho hb hg hat
                      refine hK.out _ _ ⟨(blk_cell BK146.out 0).trans rfl, (blk_cell BK146.out 1).trans rfl, (blk_cell BK146.out 2).trans rfl, (blk_cell BK146.out 3).trans rfl, (blk_cell BK147.out 0).trans rfl, (blk_cell BK147.out 1).trans rfl, (blk_cell BK147.out 2).trans rfl⟩ (fun hHeld => ?_)
                      clear hK K
                      refine norm_ (a' := ?_) ?_ ?_
                      rotate_left
                      · show Act.put _ (some 35) _ = _
                        simp only [Act.put, List.setIfInBounds_toArray, List.set_cons_zero, List.set_cons_succ, i64_w, i32_w]
                        rfl
                      exact norm_ (by simp only [putAll, Act.put, List.setIfInBounds_toArray, List.set_cons_zero, List.set_cons_succ]) (hCont (v152, v155, v158) _ ⟨hHeld, (by (with_reducible repeat (first | apply Kd.R_alloc | apply Kd.R_drewN | apply Kd.R_drew)); exact HO156.out), (by (with_reducible repeat (first | apply Kd.R_alloc | apply Kd.R_drewN | apply Kd.R_drew)); exact Kd.R_mono HO159.out (fun _ hk => ⟨hk.2, hk.1⟩)), (by (with_reducible repeat (first | refine blk_drewN ?_ _ | refine blk_drew ?_ | refine blk_alloc ?_ _)); exact BK146.out), (by (with_reducible repeat (first | refine blk_drewN ?_ _ | refine blk_drew ?_ | refine blk_alloc ?_ _)); exact BK147.out), (by (with_reducible repeat (first | refine blk_drewN ?_ _ | refine blk_drew ?_ | refine blk_alloc ?_ _)); exact BK150.out), (by repeat (first | (with_reducible first | exact HB.out | apply below_alloc | apply pw_below_drewN | apply below_drew1 | refine below_set ?_ GE146.out | refine below_set ?_ GE147.out | refine below_set ?_ GE150.out) | exact HB.out))⟩)
                  rintro ⟨v152, v155, v158⟩ w126 ⟨hS_, h0_, h1_, h2_, h3_, h4_, h5_⟩
                  have n0_ : Aside0 (Kd.R k39 39 w126 w.heap.size (fun k_ => some k_ ≠ (v158 : Value).ownBlock ∧ k_ ≠ gb147) v155 y154) := ⟨h0_⟩
                  have n1_ : Aside0 (Kd.R k39 39 w126 w.heap.size (fun k_ => some k_ ≠ (v155 : Value).ownBlock ∧ k_ ≠ gb147) v158 y157) := ⟨h1_⟩
                  have n2_ : Aside0 (w126.heap[gb146]? = some (.cells #[.slice A0_0 l0_0.length c0_0, .slice A0_1 l0_1.length c0_1, .bool a0_2, .string a0_3] 30 (0, 0))) := ⟨h2_⟩
                  have n3_ : Aside0 (w126.heap[gb147]? = some (.cells #[.string a1_0, .bool a1_1, .bool a1_2] 39 (0, 0))) := ⟨h3_⟩
                  have n4_ : Aside0 (w126.heap[gb150]? = some (.cells #[.slice A0_0 l0_0.length c0_0, .slice A0_1 l0_1.length c0_1, .bool a0_2, .string a0_3] 30 (0, 0))) := ⟨h4_⟩
                  have n5_ : Aside0 (Below w.heap.size w w126) := ⟨h5_⟩
                  clear BK146
                  clear BK147
                  clear BK150
                  clear HB
                  clear h0_ h1_ h2_ h3_ h4_ h5_
                  have HO156 := n0_
                  have HO159 := n1_
                  have BK146 := n2_
                  have BK147 := n3_
                  have BK150 := n4_
                  have HB := n5_
                  clear n0_ n1_ n2_ n3_ n4_ n5_
                  have hHeld : w126.cell? ⟨gb146, 0, none⟩ = some (.slice A0_0 l0_0.length c0_0) ∧ w126.cell? ⟨gb146, 1, none⟩ = some (.slice A0_1 l0_1.length c0_1) ∧ w126.cell? ⟨gb146, 2, none⟩ = some (.bool a0_2) ∧ w126.cell? ⟨gb146, 3, none⟩ = some (.string a0_3) ∧ w126.cell? ⟨gb147, 0, none⟩ = some (.string a1_0) ∧ w126.cell? ⟨gb147, 1, none⟩ = some (.bool a1_1) ∧ w126.cell? ⟨gb147, 2, none⟩ = some (.bool a1_2) := hS_
                  obtain ⟨Ao128, co128, eo128⟩ := Kd.R_slice HO159.out
                  (first | subst eo128 | (injection eo128 with f1_ f2_ f3_; have f4_ := f1_.symm; have f5_ := f3_.symm; clear f1_ f2_ f3_; subst f4_; subst f5_))
                  refine norm_ (a' := ?_) ?_ ?_
                  rotate_left
                  · simp only [putAll, Act.put, List.setIfInBounds_toArray, List.set_cons_zero, List.set_cons_succ]
                    rfl
                  refine one_ (i := 6) (N := some 38) #[true, true, true, true, true, true, true, false, false] rfl rfl (one_of HT_.out (by kernel_rfl)) (by decide) (fun K hK => ?_)
                  refine Kd.R_append_rows_step k39 (w0 := w) w.heap.size (by rfl) (.tmp 35) (.tmp 37) 28 39 (.agg #[(.string ⟨#[]⟩), (.bool false), (.bool false)]) 24 rfl Tryd.underlying28 info39 rfl (by decide) (by omega) v155 y154 y157 _ _ _ (fun k_ => some k_ ≠ (.slice Ao128 y157.length co128 : Value).ownBlock ∧ k_ ≠ gb147) (fun _ => False) rfl rfl ?aO ?aR (fun _ _ h => h) (fun _ h => h.elim) ?aF ?aB ?aS ?aL ?_
                  (case aR => repeat (first | exact (Kd.R_reads' HO159.out).2.2 | (with_reducible refine Kd.C_alloc ?_ _) | (with_reducible refine Kd.C_drewN ?_ _) | (with_reducible refine Kd.C_drew ?_)))
                  (case aB => exact (by repeat (first | (with_reducible first | exact HB.out | apply below_alloc | apply pw_below_drewN | apply below_drew1 | refine below_set ?_ GE146.out | refine below_set ?_ GE147.out | refine below_set ?_ GE150.out) | exact HB.out)))
                  (case aF => exact (fun k_ hk => ⟨Kd.fresh' (Kd.R_lt (by (with_reducible repeat (first | apply Kd.R_alloc | apply Kd.R_drewN | apply Kd.R_drew)); exact HO159.out)) k_ hk, Kd.freshB (g := gb147) (o := .cells #[.string a1_0, .bool a1_1, .bool a1_2] 39 (0, 0)) (by (with_reducible repeat (first | refine blk_drewN ?_ _ | refine blk_drew ?_ | refine blk_alloc ?_ _)); exact BK147.out) k_ hk⟩))
                  (case aO => exact (by (with_reducible repeat (first | apply Kd.R_alloc | apply Kd.R_drewN | apply Kd.R_drew)); exact HO156.out))
                  (case aS => exact (below_size (by repeat (first | (with_reducible first | exact HB.out | apply below_alloc | apply pw_below_drewN | apply below_drew1 | refine below_set ?_ GE146.out | refine below_set ?_ GE147.out | refine below_set ?_ GE150.out) | exact HB.out))))
                  (case aL => have := LMc26.out; omega)
                  intro v161 w127 ho hb hg hat
                  rw [← Ny160.out] at ho
                  have n0_ := Aside0.mk (blk_grown (g := gb146) (o := .cells #[.slice A0_0 l0_0.length c0_0, .slice A0_1 l0_1.length c0_1, .bool a0_2, .string a0_3] 30 (0, 0)) (by (with_reducible repeat (first | refine blk_drewN ?_ _ | refine blk_drew ?_ | refine blk_alloc ?_ _)); exact BK146.out) hg (Kd.R_ne HO156.out BK146.out (by decide)))
                  have n1_ := Aside0.mk (blk_grown (g := gb147) (o := .cells #[.string a1_0, .bool a1_1, .bool a1_2] 39 (0, 0)) (by (with_reducible repeat (first | refine blk_drewN ?_ _ | refine blk_drew ?_ | refine blk_alloc ?_ _)); exact BK147.out) hg (Kd.R_away HO156.out (fun _ hk => hk.2)))
                  have n2_ := Aside0.mk (blk_grown (g := gb150) (o := .cells #[.slice A0_0 l0_0.length c0_0, .slice A0_1 l0_1.length c0_1, .bool a0_2, .string a0_3] 30 (0, 0)) (by (with_reducible repeat (first | refine blk_drewN ?_ _ | refine blk_drew ?_ | refine blk_alloc ?_ _)); exact BK150.out) hg (Kd.R_ne HO156.out BK150.out (by decide)))
                  have n3_ := Aside0.mk (Kd.R_after (ok := (fun k_ => k_ ≠ gb147)) (by (with_reducible repeat (first | apply Kd.R_alloc | apply Kd.R_drewN | apply Kd.R_drew)); exact Kd.R_mono HO159.out (fun _ hk => ⟨hk.2, hk.1⟩)) hg hat)
                  have n4_ := Aside0.mk (hb)
                  have n5_ := Aside0.mk (ho)
                  clear BK146
                  clear BK147
                  clear BK150
                  clear HO159
                  clear HB
                  clear HO156
                  have BK146 := n0_
                  have BK147 := n1_
                  have BK150 := n2_
                  have HO159 := n3_
                  have HB := n4_
                  have HO162 := n5_
                  clear n0_ n1_ n2_ n3_ n4_ n5_
                  clear ho hb hg hat
                  obtain ⟨Ao129, co129, eo129⟩ := Kd.R_slice HO162.out
                  (first | subst eo129 | (injection eo129 with f1_ f2_ f3_; have f4_ := f1_.symm; have f5_ := f3_.symm; clear f1_ f2_ f3_; subst f4_; subst f5_))
                  refine hK.out _ _ ⟨(blk_cell BK146.out 0).trans rfl, (blk_cell BK146.out 1).trans rfl, (blk_cell BK146.out 2).trans rfl, (blk_cell BK146.out 3).trans rfl, (blk_cell BK147.out 0).trans rfl, (blk_cell BK147.out 1).trans rfl, (blk_cell BK147.out 2).trans rfl⟩ (fun hHeld => ?_)
                  clear hK K
                  refine norm_ (a' := ?_) ?_ ?_
                  rotate_left
                  · show Act.put _ (some 38) _ = _
                    simp only [Act.put, List.setIfInBounds_toArray, List.set_cons_zero, List.set_cons_succ, i64_w, i32_w]
                    rfl
                  refine pure_ (i := 7) (N := some 39) (v := ?_) (a' := ?_) #[true, true, true, true, true, true, true, true, false] rfl rfl (any_of HT_.out (by kernel_rfl)) (fun _ _ _ h => h) (Or.inl ⟨by rfl, ?_⟩) ?_ ?_
                  rotate_left
                  · intro w'
                    go_simp
                    with_reducible rfl
                  rotate_left
                  · simp only [Act.put, List.setIfInBounds_toArray, List.set_cons_zero, List.set_cons_succ, i64_w, i32_w]
                    rfl
                  refine one_ (i := 8) (N := none) #[true, true, true, true, true, true, true, true, true] rfl rfl (one_of HT_.out (by kernel_rfl)) (by decide) (fun K hK => ?_)
                  have hs130 : w127.cell? ⟨gb150, 1, none⟩ = some (.slice A0_1 l0_1.length c0_1) := (blk_cell BK150.out 1).trans rfl
                  have hfs130 := blk_frozen BK150.out 1
                  have hns130_0 := NB146_150.out
                  have hns130_1 := NB147_150.out
                  have hms130_0 := NB150_146.out
                  have hms130_1 := NB150_147.out
                  refine skip_ (w1 := ?_) (by rfl) rfl ?_ ?_
                  rotate_left
                  · go_simp
                    rfl
                  refine hK.out _ _ ⟨((cell_far (p := ⟨gb150, _, none⟩) NB146_150.out _).trans (hHeld.1)), ((cell_far (p := ⟨gb150, _, none⟩) NB146_150.out _).trans (hHeld.2.1)), ((cell_far (p := ⟨gb150, _, none⟩) NB146_150.out _).trans (hHeld.2.2.1)), ((cell_far (p := ⟨gb150, _, none⟩) NB146_150.out _).trans (hHeld.2.2.2.1)), ((cell_far (p := ⟨gb150, _, none⟩) NB147_150.out _).trans (hHeld.2.2.2.2.1)), ((cell_far (p := ⟨gb150, _, none⟩) NB147_150.out _).trans (hHeld.2.2.2.2.2.1)), ((cell_far (p := ⟨gb150, _, none⟩) NB147_150.out _).trans (hHeld.2.2.2.2.2.2))⟩ (fun hHeld => ?_)
                  clear hK K
                  refine done_ (done_of HT_.out (by kernel_rfl)) ?_
                  have hcz131_0 : w127.cell? ⟨gb146, 0, none⟩ = some (.slice A0_0 l0_0.length c0_0) := (blk_cell BK146.out 0).trans rfl
                  have hcz131_1 : w127.cell? ⟨gb146, 1, none⟩ = some (.slice A0_1 l0_1.length c0_1) := (blk_cell BK146.out 1).trans rfl
                  have hcz131_2 : w127.cell? ⟨gb146, 2, none⟩ = some (.bool a0_2) := (blk_cell BK146.out 2).trans rfl
                  have hcz131_3 : w127.cell? ⟨gb146, 3, none⟩ = some (.string a0_3) := (blk_cell BK146.out 3).trans rfl
                  have hfz131_0 := blk_frozen BK146.out 0
                  have hfz131_1 := blk_frozen BK146.out 1
                  have hfz131_2 := blk_frozen BK146.out 2
                  have hfz131_3 := blk_frozen BK146.out 3
                  try go_wp2_with (first | ((with_reducible refine gate_callee (f := 28) rfl ?_); refine goesL_ (some 43) rfl rfl Tryd.func28 (by kernel_rfl) rfl #[.agg #[.slice A0_0 l0_0.length c0_0, .slice A0_1 l0_1.length c0_1, .bool a0_2, .string a0_3], .string a2, .string a3] rfl (by (try simp only [List.map_toArray, List.map_cons, List.map_nil]); first | done | rfl | (simp only [List.length_drop, List.length_take]; rfl)) ?_; (with_reducible refine (decide_By.calls kj4 _ _ l0_0 _ _ l0_1 a0_2 a0_3 a2 a3 t163 t164 t167 _ ?side1 ?side2 ?side3 ?side4 A27.out ?sideL).mono ?_); (case sideL => first | exact HL.out.below (by repeat (first | (with_reducible first | exact HB.out | apply below_alloc | apply pw_below_drewN | apply below_drew1 | refine below_set ?_ GE150.out | refine below_set ?_ GE168.out | refine below_set ?_ GE146.out) | exact HB.out)) | exact (HL.out.below (by repeat (first | (with_reducible first | exact HB.out | apply below_alloc | apply pw_below_drewN | apply below_drew1 | refine below_set ?_ GE150.out | refine below_set ?_ GE168.out | refine below_set ?_ GE146.out) | exact HB.out))).1 | exact (HL.out.below (by repeat (first | (with_reducible first | exact HB.out | apply below_alloc | apply pw_below_drewN | apply below_drew1 | refine below_set ?_ GE150.out | refine below_set ?_ GE168.out | refine below_set ?_ GE146.out) | exact HB.out))).2); (case side1 => exact Kd.C_below HR0_0.out (by repeat (first | (with_reducible first | exact HB.out | apply below_alloc | apply pw_below_drewN | apply below_drew1 | refine below_set ?_ GE146.out | refine below_set ?_ GE147.out | refine below_set ?_ GE150.out) | exact HB.out))); (case side2 => exact HC0_0.out); (case side3 => exact Kd.C_below HR0_1.out (by repeat (first | (with_reducible first | exact HB.out | apply below_alloc | apply pw_below_drewN | apply below_drew1 | refine below_set ?_ GE146.out | refine below_set ?_ GE147.out | refine below_set ?_ GE150.out) | exact HB.out))); (case side4 => exact HC0_1.out); rintro e w132 ⟨v165, rfl, ho0, hb⟩; refine ⟨_, rfl, ?_⟩; have n0_ := Aside0.mk (Kd.R_below (by (with_reducible repeat (first | apply Kd.R_alloc | apply Kd.R_drewN | apply Kd.R_drew)); exact (Kd.R_mono (Kd.R_far (p := ⟨gb150, 1, none⟩) (Kd.R_types HO159.out BK150.out (by decide)) (fun _ hk => hk.2) (.slice Ao129 y160.length co129)) (fun _ h_ => h_.1))) hb); have n1_ := Aside0.mk (Kd.R_below (by (with_reducible repeat (first | apply Kd.R_alloc | apply Kd.R_drewN | apply Kd.R_drew)); exact (Kd.R_mono (Kd.R_far (p := ⟨gb150, 1, none⟩) (Kd.R_types HO162.out BK150.out (by decide)) (fun _ hk => hk.2) (.slice Ao129 y160.length co129)) (fun _ h_ => h_.1))) hb); have n2_ := Aside0.mk (Kd.R_lower ho0 (below_size (by repeat (first | (with_reducible first | exact HB.out | apply below_alloc | apply pw_below_drewN | apply below_drew1 | refine below_set ?_ GE146.out | refine below_set ?_ GE147.out | refine below_set ?_ GE150.out) | exact HB.out)))); have n3_ := Aside0.mk (blk_below (g := gb146) (o := .cells #[.slice A0_0 l0_0.length c0_0, .slice A0_1 l0_1.length c0_1, .bool a0_2, .string a0_3] 30 (0, 0)) (by (with_reducible repeat (first | refine blk_drewN ?_ _ | refine blk_drew ?_ | refine blk_alloc ?_ _)); refine blk_far ?_ NB146_150.out _; (with_reducible repeat (first | refine blk_drewN ?_ _ | refine blk_drew ?_ | refine blk_alloc ?_ _)); exact BK146.out) hb); have n4_ := Aside0.mk (blk_below (g := gb147) (o := .cells #[.string a1_0, .bool a1_1, .bool a1_2] 39 (0, 0)) (by (with_reducible repeat (first | refine blk_drewN ?_ _ | refine blk_drew ?_ | refine blk_alloc ?_ _)); refine blk_far ?_ NB147_150.out _; (with_reducible repeat (first | refine blk_drewN ?_ _ | refine blk_drew ?_ | refine blk_alloc ?_ _)); exact BK147.out) hb); have n5_ := Aside0.mk (blk_below (g := gb150) (o := .cells #[.slice A0_0 l0_0.length c0_0, .slice Ao129 y160.length co129, .bool a0_2, .string a0_3] 30 (0, 0)) (by (with_reducible repeat (first | refine blk_drewN ?_ _ | refine blk_drew ?_ | refine blk_alloc ?_ _)); refine blk_put (cs := #[.slice A0_0 l0_0.length c0_0, .slice A0_1 l0_1.length c0_1, .bool a0_2, .string a0_3]) ?_ 1 _ rfl; (with_reducible repeat (first | refine blk_drewN ?_ _ | refine blk_drew ?_ | refine blk_alloc ?_ _)); exact BK150.out) hb); have n6_ := Aside0.mk (below_step (by repeat (first | (with_reducible first | exact HB.out | apply below_alloc | apply pw_below_drewN | apply below_drew1 | refine below_set ?_ GE146.out | refine below_set ?_ GE147.out | refine below_set ?_ GE150.out) | exact HB.out)) hb); clear HO159; clear HO162; clear BK146; clear BK147; clear BK150; clear HB; have HO159 := n0_; have HO162 := n1_; have HO166 := n2_; have BK146 := n3_; have BK147 := n4_; have BK150 := n5_; have HB := n6_; clear n0_ n1_ n2_ n3_ n4_ n5_ n6_; (try clear hb); (try clear hb2); (try clear hk); (try clear hi); (try clear ho0)) | ((with_reducible refine gate_dst (N := 10) rfl ?_); (try (refine gate_guard (by rfl) ?_; dsimp only)); refine box_event ?hg (N := 10) ?hd (cs := #[.int .i64 0, .slice none 0 0, .string (⟨#[]⟩ : ByteArray)]) (t := 44) ?hr ?_; (case hd => rfl); (case hg => rfl); (case hr => first | (go_simp; done) | (go_simp; rfl)); intro gb168 hg w133 hbox hb; have n0_ := Aside0.mk (Kd.R_below (by (with_reducible repeat (first | apply Kd.R_alloc | apply Kd.R_drewN | apply Kd.R_drew)); exact HO159.out) hb); have n1_ := Aside0.mk (Kd.R_below (by (with_reducible repeat (first | apply Kd.R_alloc | apply Kd.R_drewN | apply Kd.R_drew)); exact HO162.out) hb); have n2_ := Aside0.mk (Kd.R_below (by (with_reducible repeat (first | apply Kd.R_alloc | apply Kd.R_drewN | apply Kd.R_drew)); exact HO166.out) hb); have n3_ := Aside0.mk (blk_below (g := gb146) (o := .cells #[.slice A0_0 l0_0.length c0_0, .slice A0_1 l0_1.length c0_1, .bool a0_2, .string a0_3] 30 (0, 0)) (by (with_reducible repeat (first | refine blk_drewN ?_ _ | refine blk_drew ?_ | refine blk_alloc ?_ _)); exact BK146.out) hb); have n4_ := Aside0.mk (blk_below (g := gb147) (o := .cells #[.string a1_0, .bool a1_1, .bool a1_2] 39 (0, 0)) (by (with_reducible repeat (first | refine blk_drewN ?_ _ | refine blk_drew ?_ | refine blk_alloc ?_ _)); exact BK147.out) hb); have n5_ := Aside0.mk (blk_below (g := gb150) (o := .cells #[.slice A0_0 l0_0.length c0_0, .slice Ao129 y160.length co129, .bool a0_2, .string a0_3] 30 (0, 0)) (by (with_reducible repeat (first | refine blk_drewN ?_ _ | refine blk_drew ?_ | refine blk_alloc ?_ _)); exact BK150.out) hb); have n6_ := Aside0.mk (below_step (by repeat (first | (with_reducible first | exact HB.out | apply below_alloc | apply pw_below_drewN | apply below_drew1 | refine below_set ?_ GE146.out | refine below_set ?_ GE147.out | refine below_set ?_ GE150.out) | exact HB.out)) hb); have n7_ := Aside0.mk (hbox); have n8_ := Aside0.mk ((by rw [hg]; exact (below_size (by repeat (first | (with_reducible first | exact HB.out | apply below_alloc | apply pw_below_drewN | apply below_drew1 | refine below_set ?_ GE146.out | refine below_set ?_ GE147.out | refine below_set ?_ GE150.out) | exact HB.out))) : w.heap.size ≤ gb168)); have n9_ := Aside0.mk ((by rw [hg]; exact (below_size (by repeat (first | (with_reducible first | exact HB.out | apply below_alloc | apply pw_below_drewN | apply below_drew1 | refine below_set ?_ GE146.out | refine below_set ?_ GE147.out | refine below_set ?_ GE150.out) | exact HB.out))) : w.heap.size ≤ gb168)); have n10_ := Aside0.mk ((by rw [hg]; exact Nat.ne_of_lt (blk_lt (g := gb146) (o := .cells #[.slice A0_0 l0_0.length c0_0, .slice A0_1 l0_1.length c0_1, .bool a0_2, .string a0_3] 30 (0, 0)) (by (with_reducible repeat (first | refine blk_drewN ?_ _ | refine blk_drew ?_ | refine blk_alloc ?_ _)); exact BK146.out)) : gb146 ≠ gb168)); have n11_ := Aside0.mk ((by rw [hg]; exact Nat.ne_of_gt (blk_lt (g := gb146) (o := .cells #[.slice A0_0 l0_0.length c0_0, .slice A0_1 l0_1.length c0_1, .bool a0_2, .string a0_3] 30 (0, 0)) (by (with_reducible repeat (first | refine blk_drewN ?_ _ | refine blk_drew ?_ | refine blk_alloc ?_ _)); exact BK146.out)) : gb168 ≠ gb146)); have n12_ := Aside0.mk ((by rw [hg]; exact Nat.ne_of_lt (blk_lt (g := gb147) (o := .cells #[.string a1_0, .bool a1_1, .bool a1_2] 39 (0, 0)) (by (with_reducible repeat (first | refine blk_drewN ?_ _ | refine blk_drew ?_ | refine blk_alloc ?_ _)); exact BK147.out)) : gb147 ≠ gb168)); have n13_ := Aside0.mk ((by rw [hg]; exact Nat.ne_of_gt (blk_lt (g := gb147) (o := .cells #[.string a1_0, .bool a1_1, .bool a1_2] 39 (0, 0)) (by (with_reducible repeat (first | refine blk_drewN ?_ _ | refine blk_drew ?_ | refine blk_alloc ?_ _)); exact BK147.out)) : gb168 ≠ gb147)); have n14_ := Aside0.mk ((by rw [hg]; exact Nat.ne_of_lt (blk_lt (g := gb150) (o := .cells #[.slice A0_0 l0_0.length c0_0, .slice Ao129 y160.length co129, .bool a0_2, .string a0_3] 30 (0, 0)) (by (with_reducible repeat (first | refine blk_drewN ?_ _ | refine blk_drew ?_ | refine blk_alloc ?_ _)); exact BK150.out)) : gb150 ≠ gb168)); have n15_ := Aside0.mk ((by rw [hg]; exact Nat.ne_of_gt (blk_lt (g := gb150) (o := .cells #[.slice A0_0 l0_0.length c0_0, .slice Ao129 y160.length co129, .bool a0_2, .string a0_3] 30 (0, 0)) (by (with_reducible repeat (first | refine blk_drewN ?_ _ | refine blk_drew ?_ | refine blk_alloc ?_ _)); exact BK150.out)) : gb168 ≠ gb150)); clear HO159; clear HO162; clear HO166; clear BK146; clear BK147; clear BK150; clear HB; have HO159 := n0_; have HO162 := n1_; have HO166 := n2_; have BK146 := n3_; have BK147 := n4_; have BK150 := n5_; have HB := n6_; have BK168 := n7_; have GW168 := n8_; have GE168 := n9_; have NB146_168 := n10_; have NB168_146 := n11_; have NB147_168 := n12_; have NB168_147 := n13_; have NB150_168 := n14_; have NB168_150 := n15_; clear n0_ n1_ n2_ n3_ n4_ n5_ n6_ n7_ n8_ n9_ n10_ n11_ n12_ n13_ n14_ n15_; clear hb hbox hg; have hnb134 := NB168_146.out; have hnc134 := NB146_168.out; have hnb135 := NB168_147.out; have hnc135 := NB147_168.out; have hnb136 := NB168_150.out; have hnc136 := NB150_168.out; have hcz137_0 : w133.cell? ⟨gb168, 0, none⟩ = some (.int .i64 0) := (blk_cell BK168.out 0).trans rfl; have hcz137_1 : w133.cell? ⟨gb168, 1, none⟩ = some (.slice none 0 0) := (blk_cell BK168.out 1).trans rfl; have hcz137_2 : w133.cell? ⟨gb168, 2, none⟩ = some (.string (⟨#[]⟩ : ByteArray)) := (blk_cell BK168.out 2).trans rfl; have hfz137_0 := blk_frozen BK168.out 0; have hfz137_1 := blk_frozen BK168.out 1; have hfz137_2 := blk_frozen BK168.out 2; obtain ⟨Ao138, co138, eo138⟩ := Kd.R_slice HO166.out; subst eo138; have hcz139_0 : w133.cell? ⟨gb150, 0, none⟩ = some (.slice A0_0 l0_0.length c0_0) := (blk_cell BK150.out 0).trans rfl; have hcz139_1 : w133.cell? ⟨gb150, 1, none⟩ = some (.slice Ao129 y160.length co129) := (blk_cell BK150.out 1).trans rfl; have hcz139_2 : w133.cell? ⟨gb150, 2, none⟩ = some (.bool a0_2) := (blk_cell BK150.out 2).trans rfl; have hcz139_3 : w133.cell? ⟨gb150, 3, none⟩ = some (.string a0_3) := (blk_cell BK150.out 3).trans rfl; have hfz139_0 := blk_frozen BK150.out 0; have hfz139_1 := blk_frozen BK150.out 1; have hfz139_2 := blk_frozen BK150.out 2; have hfz139_3 := blk_frozen BK150.out 3) | ((with_reducible refine gate_callee (f := 28) rfl ?_); refine goesL_ (some 47) rfl rfl Tryd.func28 (by kernel_rfl) rfl #[.agg #[.slice A0_0 l0_0.length c0_0, .slice Ao129 y160.length co129, .bool a0_2, .string a0_3], .string a2, .string a3] rfl (by (try simp only [List.map_toArray, List.map_cons, List.map_nil]); first | done | rfl | (simp only [List.length_drop, List.length_take]; rfl)) ?_; (with_reducible refine (decide_By.calls kj4 _ _ l0_0 _ _ y160 a0_2 a0_3 a2 a3 t169 t170 t173 _ ?side1 ?side2 ?side3 ?side4 A28.out ?sideL).mono ?_); (case sideL => first | exact HL.out.below (by repeat (first | (with_reducible first | exact HB.out | apply below_alloc | apply pw_below_drewN | apply below_drew1 | refine below_set ?_ GE150.out | refine below_set ?_ GE168.out | refine below_set ?_ GE146.out) | exact HB.out)) | exact (HL.out.below (by repeat (first | (with_reducible first | exact HB.out | apply below_alloc | apply pw_below_drewN | apply below_drew1 | refine below_set ?_ GE150.out | refine below_set ?_ GE168.out | refine below_set ?_ GE146.out) | exact HB.out))).1 | exact (HL.out.below (by repeat (first | (with_reducible first | exact HB.out | apply below_alloc | apply pw_below_drewN | apply below_drew1 | refine below_set ?_ GE150.out | refine below_set ?_ GE168.out | refine below_set ?_ GE146.out) | exact HB.out))).2); (case side1 => exact Kd.C_below HR0_0.out (by repeat (first | (with_reducible first | exact HB.out | apply below_alloc | apply pw_below_drewN | apply below_drew1 | refine below_set ?_ GE146.out | refine below_set ?_ GE147.out | refine below_set ?_ GE150.out | refine below_set ?_ GE168.out) | exact HB.out))); (case side2 => exact HC0_0.out); (case side3 => refine (Kd.R_reads' (e := 39) (base := w.heap.size) (ok := fun k_ => (some k_ ≠ (.slice Ao128 y157.length co128 : Value).ownBlock ∧ k_ ≠ gb147)) (n := y160.length) (c := co129) ?_).2.2; exact (by (with_reducible repeat (first | apply Kd.R_alloc | apply Kd.R_drewN | apply Kd.R_drew)); exact (Kd.R_mono (Kd.R_far (p := ⟨gb168, 2, none⟩) (Kd.R_far (p := ⟨gb168, 1, none⟩) (Kd.R_far (p := ⟨gb168, 0, none⟩) (Kd.R_types HO162.out BK168.out (by decide)) (fun _ hk => hk.2) (.int .i64 t163)) (fun _ hk => hk.2) (.slice Ao138 t164.length co138)) (fun _ hk => hk.2) (.string t167)) (fun _ h_ => h_.1)))); (case side4 => exact (Kd.R_reads' HO162.out).2.1); rintro e w140 ⟨v171, rfl, ho0, hb⟩; refine ⟨_, rfl, ?_⟩; have n0_ := Aside0.mk (Kd.R_below (by (with_reducible repeat (first | apply Kd.R_alloc | apply Kd.R_drewN | apply Kd.R_drew)); exact (Kd.R_mono (Kd.R_far (p := ⟨gb168, 2, none⟩) (Kd.R_far (p := ⟨gb168, 1, none⟩) (Kd.R_far (p := ⟨gb168, 0, none⟩) (Kd.R_types HO159.out BK168.out (by decide)) (fun _ hk => hk.2) (.int .i64 t163)) (fun _ hk => hk.2) (.slice Ao138 t164.length co138)) (fun _ hk => hk.2) (.string t167)) (fun _ h_ => h_.1))) hb); have n1_ := Aside0.mk (Kd.R_below (by (with_reducible repeat (first | apply Kd.R_alloc | apply Kd.R_drewN | apply Kd.R_drew)); exact (Kd.R_mono (Kd.R_far (p := ⟨gb168, 2, none⟩) (Kd.R_far (p := ⟨gb168, 1, none⟩) (Kd.R_far (p := ⟨gb168, 0, none⟩) (Kd.R_types HO162.out BK168.out (by decide)) (fun _ hk => hk.2) (.int .i64 t163)) (fun _ hk => hk.2) (.slice Ao138 t164.length co138)) (fun _ hk => hk.2) (.string t167)) (fun _ h_ => h_.1))) hb); have n2_ := Aside0.mk (Kd.R_elder' (by (with_reducible repeat (first | apply Kd.R_alloc | apply Kd.R_drewN | apply Kd.R_drew)); exact (Kd.R_mono (Kd.R_far (p := ⟨gb168, 2, none⟩) (Kd.R_far (p := ⟨gb168, 1, none⟩) (Kd.R_far (p := ⟨gb168, 0, none⟩) (Kd.R_types HO166.out BK168.out (by decide)) (fun _ hk => hk.2) (.int .i64 t163)) (fun _ hk => hk.2) (.slice Ao138 t164.length co138)) (fun _ hk => hk.2) (.string t167)) (fun _ h_ => h_.1))) (Kd.R_base ho0) hb); have n3_ := Aside0.mk (Kd.R_lower (Kd.R_new' ho0 (Kd.R_lt (by (with_reducible repeat (first | apply Kd.R_alloc | apply Kd.R_drewN | apply Kd.R_drew)); exact (Kd.R_mono (Kd.R_far (p := ⟨gb168, 2, none⟩) (Kd.R_far (p := ⟨gb168, 1, none⟩) (Kd.R_far (p := ⟨gb168, 0, none⟩) (Kd.R_types HO166.out BK168.out (by decide)) (fun _ hk => hk.2) (.int .i64 t163)) (fun _ hk => hk.2) (.slice Ao138 t164.length co138)) (fun _ hk => hk.2) (.string t167)) (fun _ h_ => h_.1))))) (below_size (by repeat (first | (with_reducible first | exact HB.out | apply below_alloc | apply pw_below_drewN | apply below_drew1 | refine below_set ?_ GE146.out | refine below_set ?_ GE147.out | refine below_set ?_ GE150.out | refine below_set ?_ GE168.out) | exact HB.out)))); have n4_ := Aside0.mk (blk_below (g := gb146) (o := .cells #[.slice A0_0 l0_0.length c0_0, .slice A0_1 l0_1.length c0_1, .bool a0_2, .string a0_3] 30 (0, 0)) (by (with_reducible repeat (first | refine blk_drewN ?_ _ | refine blk_drew ?_ | refine blk_alloc ?_ _)); refine blk_far ?_ NB146_168.out _; (with_reducible repeat (first | refine blk_drewN ?_ _ | refine blk_drew ?_ | refine blk_alloc ?_ _)); refine blk_far ?_ NB146_168.out _; (with_reducible repeat (first | refine blk_drewN ?_ _ | refine blk_drew ?_ | refine blk_alloc ?_ _)); refine blk_far ?_ NB146_168.out _; (with_reducible repeat (first | refine blk_drewN ?_ _ | refine blk_drew ?_ | refine blk_alloc ?_ _)); exact BK146.out) hb); have n5_ := Aside0.mk (blk_below (g := gb147) (o := .cells #[.string a1_0, .bool a1_1, .bool a1_2] 39 (0, 0)) (by (with_reducible repeat (first | refine blk_drewN ?_ _ | refine blk_drew ?_ | refine blk_alloc ?_ _)); refine blk_far ?_ NB147_168.out _; (with_reducible repeat (first | refine blk_drewN ?_ _ | refine blk_drew ?_ | refine blk_alloc ?_ _)); refine blk_far ?_ NB147_168.out _; (with_reducible repeat (first | refine blk_drewN ?_ _ | refine blk_drew ?_ | refine blk_alloc ?_ _)); refine blk_far ?_ NB147_168.out _; (with_reducible repeat (first | refine blk_drewN ?_ _ | refine blk_drew ?_ | refine blk_alloc ?_ _)); exact BK147.out) hb); have n6_ := Aside0.mk (blk_below (g := gb150) (o := .cells #[.slice A0_0 l0_0.length c0_0, .slice Ao129 y160.length co129, .bool a0_2, .string a0_3] 30 (0, 0)) (by (with_reducible repeat (first | refine blk_drewN ?_ _ | refine blk_drew ?_ | refine blk_alloc ?_ _)); refine blk_far ?_ NB150_168.out _; (with_reducible repeat (first | refine blk_drewN ?_ _ | refine blk_drew ?_ | refine blk_alloc ?_ _)); refine blk_far ?_ NB150_168.out _; (with_reducible repeat (first | refine blk_drewN ?_ _ | refine blk_drew ?_ | refine blk_alloc ?_ _)); refine blk_far ?_ NB150_168.out _; (with_reducible repeat (first | refine blk_drewN ?_ _ | refine blk_drew ?_ | refine blk_alloc ?_ _)); exact BK150.out) hb); have n7_ := Aside0.mk (blk_below (g := gb168) (o := .cells #[.int .i64 t163, .slice Ao138 t164.length co138, .string t167] 44 (0, 0)) (by (with_reducible repeat (first | refine blk_drewN ?_ _ | refine blk_drew ?_ | refine blk_alloc ?_ _)); refine blk_put (cs := #[.int .i64 t163, .slice Ao138 t164.length co138, .string (⟨#[]⟩ : ByteArray)]) ?_ 2 _ rfl; (with_reducible repeat (first | refine blk_drewN ?_ _ | refine blk_drew ?_ | refine blk_alloc ?_ _)); refine blk_put (cs := #[.int .i64 t163, .slice none 0 0, .string (⟨#[]⟩ : ByteArray)]) ?_ 1 _ rfl; (with_reducible repeat (first | refine blk_drewN ?_ _ | refine blk_drew ?_ | refine blk_alloc ?_ _)); refine blk_put (cs := #[.int .i64 0, .slice none 0 0, .string (⟨#[]⟩ : ByteArray)]) ?_ 0 _ rfl; (with_reducible repeat (first | refine blk_drewN ?_ _ | refine blk_drew ?_ | refine blk_alloc ?_ _)); exact BK168.out) hb); have n8_ := Aside0.mk (below_step (by repeat (first | (with_reducible first | exact HB.out | apply below_alloc | apply pw_below_drewN | apply below_drew1 | refine below_set ?_ GE146.out | refine below_set ?_ GE147.out | refine below_set ?_ GE150.out | refine below_set ?_ GE168.out) | exact HB.out)) hb); clear HO159; clear HO162; clear HO166; clear BK146; clear BK147; clear BK150; clear BK168; clear HB; have HO159 := n0_; have HO162 := n1_; have HO166 := n2_; have HO172 := n3_; have BK146 := n4_; have BK147 := n5_; have BK150 := n6_; have BK168 := n7_; have HB := n8_; clear n0_ n1_ n2_ n3_ n4_ n5_ n6_ n7_ n8_; (try clear hb); (try clear hb2); (try clear hk); (try clear hi); (try clear ho0)) | ((with_reducible refine gate_dst (N := 11) rfl ?_); (try (refine gate_guard (by rfl) ?_; dsimp only)); refine box_event ?hg (N := 11) ?hd (cs := #[.int .i64 0, .slice none 0 0, .string (⟨#[]⟩ : ByteArray)]) (t := 44) ?hr ?_; (case hd => rfl); (case hg => rfl); (case hr => first | (go_simp; done) | (go_simp; rfl)); intro gb174 hg w141 hbox hb; have n0_ := Aside0.mk (Kd.R_below (by (with_reducible repeat (first | apply Kd.R_alloc | apply Kd.R_drewN | apply Kd.R_drew)); exact HO159.out) hb); have n1_ := Aside0.mk (Kd.R_below (by (with_reducible repeat (first | apply Kd.R_alloc | apply Kd.R_drewN | apply Kd.R_drew)); exact HO162.out) hb); have n2_ := Aside0.mk (Kd.R_below (by (with_reducible repeat (first | apply Kd.R_alloc | apply Kd.R_drewN | apply Kd.R_drew)); exact HO166.out) hb); have n3_ := Aside0.mk (Kd.R_below (by (with_reducible repeat (first | apply Kd.R_alloc | apply Kd.R_drewN | apply Kd.R_drew)); exact HO172.out) hb); have n4_ := Aside0.mk (blk_below (g := gb146) (o := .cells #[.slice A0_0 l0_0.length c0_0, .slice A0_1 l0_1.length c0_1, .bool a0_2, .string a0_3] 30 (0, 0)) (by (with_reducible repeat (first | refine blk_drewN ?_ _ | refine blk_drew ?_ | refine blk_alloc ?_ _)); exact BK146.out) hb); have n5_ := Aside0.mk (blk_below (g := gb147) (o := .cells #[.string a1_0, .bool a1_1, .bool a1_2] 39 (0, 0)) (by (with_reducible repeat (first | refine blk_drewN ?_ _ | refine blk_drew ?_ | refine blk_alloc ?_ _)); exact BK147.out) hb); have n6_ := Aside0.mk (blk_below (g := gb150) (o := .cells #[.slice A0_0 l0_0.length c0_0, .slice Ao129 y160.length co129, .bool a0_2, .string a0_3] 30 (0, 0)) (by (with_reducible repeat (first | refine blk_drewN ?_ _ | refine blk_drew ?_ | refine blk_alloc ?_ _)); exact BK150.out) hb); have n7_ := Aside0.mk (blk_below (g := gb168) (o := .cells #[.int .i64 t163, .slice Ao138 t164.length co138, .string t167] 44 (0, 0)) (by (with_reducible repeat (first | refine blk_drewN ?_ _ | refine blk_drew ?_ | refine blk_alloc ?_ _)); exact BK168.out) hb); have n8_ := Aside0.mk (below_step (by repeat (first | (with_reducible first | exact HB.out | apply below_alloc | apply pw_below_drewN | apply below_drew1 | refine below_set ?_ GE146.out | refine below_set ?_ GE147.out | refine below_set ?_ GE150.out | refine below_set ?_ GE168.out) | exact HB.out)) hb); have n9_ := Aside0.mk (hbox); have n10_ := Aside0.mk ((by rw [hg]; exact (below_size (by repeat (first | (with_reducible first | exact HB.out | apply below_alloc | apply pw_below_drewN | apply below_drew1 | refine below_set ?_ GE146.out | refine below_set ?_ GE147.out | refine below_set ?_ GE150.out | refine below_set ?_ GE168.out) | exact HB.out))) : w.heap.size ≤ gb174)); have n11_ := Aside0.mk ((by rw [hg]; exact (below_size (by repeat (first | (with_reducible first | exact HB.out | apply below_alloc | apply pw_below_drewN | apply below_drew1 | refine below_set ?_ GE146.out | refine below_set ?_ GE147.out | refine below_set ?_ GE150.out | refine below_set ?_ GE168.out) | exact HB.out))) : w.heap.size ≤ gb174)); have n12_ := Aside0.mk ((by rw [hg]; exact Nat.ne_of_lt (blk_lt (g := gb146) (o := .cells #[.slice A0_0 l0_0.length c0_0, .slice A0_1 l0_1.length c0_1, .bool a0_2, .string a0_3] 30 (0, 0)) (by (with_reducible repeat (first | refine blk_drewN ?_ _ | refine blk_drew ?_ | refine blk_alloc ?_ _)); exact BK146.out)) : gb146 ≠ gb174)); have n13_ := Aside0.mk ((by rw [hg]; exact Nat.ne_of_gt (blk_lt (g := gb146) (o := .cells #[.slice A0_0 l0_0.length c0_0, .slice A0_1 l0_1.length c0_1, .bool a0_2, .string a0_3] 30 (0, 0)) (by (with_reducible repeat (first | refine blk_drewN ?_ _ | refine blk_drew ?_ | refine blk_alloc ?_ _)); exact BK146.out)) : gb174 ≠ gb146)); have n14_ := Aside0.mk ((by rw [hg]; exact Nat.ne_of_lt (blk_lt (g := gb147) (o := .cells #[.string a1_0, .bool a1_1, .bool a1_2] 39 (0, 0)) (by (with_reducible repeat (first | refine blk_drewN ?_ _ | refine blk_drew ?_ | refine blk_alloc ?_ _)); exact BK147.out)) : gb147 ≠ gb174)); have n15_ := Aside0.mk ((by rw [hg]; exact Nat.ne_of_gt (blk_lt (g := gb147) (o := .cells #[.string a1_0, .bool a1_1, .bool a1_2] 39 (0, 0)) (by (with_reducible repeat (first | refine blk_drewN ?_ _ | refine blk_drew ?_ | refine blk_alloc ?_ _)); exact BK147.out)) : gb174 ≠ gb147)); have n16_ := Aside0.mk ((by rw [hg]; exact Nat.ne_of_lt (blk_lt (g := gb150) (o := .cells #[.slice A0_0 l0_0.length c0_0, .slice Ao129 y160.length co129, .bool a0_2, .string a0_3] 30 (0, 0)) (by (with_reducible repeat (first | refine blk_drewN ?_ _ | refine blk_drew ?_ | refine blk_alloc ?_ _)); exact BK150.out)) : gb150 ≠ gb174)); have n17_ := Aside0.mk ((by rw [hg]; exact Nat.ne_of_gt (blk_lt (g := gb150) (o := .cells #[.slice A0_0 l0_0.length c0_0, .slice Ao129 y160.length co129, .bool a0_2, .string a0_3] 30 (0, 0)) (by (with_reducible repeat (first | refine blk_drewN ?_ _ | refine blk_drew ?_ | refine blk_alloc ?_ _)); exact BK150.out)) : gb174 ≠ gb150)); have n18_ := Aside0.mk ((by rw [hg]; exact Nat.ne_of_lt (blk_lt (g := gb168) (o := .cells #[.int .i64 t163, .slice Ao138 t164.length co138, .string t167] 44 (0, 0)) (by (with_reducible repeat (first | refine blk_drewN ?_ _ | refine blk_drew ?_ | refine blk_alloc ?_ _)); exact BK168.out)) : gb168 ≠ gb174)); have n19_ := Aside0.mk ((by rw [hg]; exact Nat.ne_of_gt (blk_lt (g := gb168) (o := .cells #[.int .i64 t163, .slice Ao138 t164.length co138, .string t167] 44 (0, 0)) (by (with_reducible repeat (first | refine blk_drewN ?_ _ | refine blk_drew ?_ | refine blk_alloc ?_ _)); exact BK168.out)) : gb174 ≠ gb168)); clear HO159; clear HO162; clear HO166; clear HO172; clear BK146; clear BK147; clear BK150; clear BK168; clear HB; have HO159 := n0_; have HO162 := n1_; have HO166 := n2_; have HO172 := n3_; have BK146 := n4_; have BK147 := n5_; have BK150 := n6_; have BK168 := n7_; have HB := n8_; have BK174 := n9_; have GW174 := n10_; have GE174 := n11_; have NB146_174 := n12_; have NB174_146 := n13_; have NB147_174 := n14_; have NB174_147 := n15_; have NB150_174 := n16_; have NB174_150 := n17_; have NB168_174 := n18_; have NB174_168 := n19_; clear n0_ n1_ n2_ n3_ n4_ n5_ n6_ n7_ n8_ n9_ n10_ n11_ n12_ n13_ n14_ n15_ n16_ n17_ n18_ n19_; clear hb hbox hg; have hnb142 := NB174_146.out; have hnc142 := NB146_174.out; have hnb143 := NB174_147.out; have hnc143 := NB147_174.out; have hnb144 := NB174_150.out; have hnc144 := NB150_174.out; have hnb145 := NB174_168.out; have hnc145 := NB168_174.out; have hcz146_0 : w141.cell? ⟨gb174, 0, none⟩ = some (.int .i64 0) := (blk_cell BK174.out 0).trans rfl; have hcz146_1 : w141.cell? ⟨gb174, 1, none⟩ = some (.slice none 0 0) := (blk_cell BK174.out 1).trans rfl; have hcz146_2 : w141.cell? ⟨gb174, 2, none⟩ = some (.string (⟨#[]⟩ : ByteArray)) := (blk_cell BK174.out 2).trans rfl; have hfz146_0 := blk_frozen BK174.out 0; have hfz146_1 := blk_frozen BK174.out 1; have hfz146_2 := blk_frozen BK174.out 2; obtain ⟨Ao147, co147, eo147⟩ := Kd.R_slice HO172.out; subst eo147))
                  have n0_ : Aside0 (Kd.R k39 39 (((w141.setCell ⟨gb174, 0, none⟩ (.int .i64 t169)).setCell ⟨gb174, 1, none⟩ (.slice Ao147 t170.length co147)).setCell ⟨gb174, 2, none⟩ (.string t173)) w.heap.size (fun k_ => some k_ ≠ (.slice Ao129 y160.length co129 : Value).ownBlock ∧ k_ ≠ gb147) (.slice Ao128 y157.length co128) y157) := ⟨by (with_reducible repeat (first | apply Kd.R_alloc | apply Kd.R_drewN | apply Kd.R_drew)); exact Kd.R_mono (Kd.R_far (p := ⟨gb174, 2, none⟩) (Kd.R_far (p := ⟨gb174, 1, none⟩) (Kd.R_far (p := ⟨gb174, 0, none⟩) (Kd.R_types HO159.out BK174.out (by decide)) (fun _ hk => hk.2) (.int .i64 t169)) (fun _ hk => hk.2) (.slice Ao147 t170.length co147)) (fun _ hk => hk.2) (.string t173)) (fun _ hk => ⟨hk.1.2, hk.1.1⟩)⟩
                  have n1_ : Aside0 (Kd.R k39 39 (((w141.setCell ⟨gb174, 0, none⟩ (.int .i64 t169)).setCell ⟨gb174, 1, none⟩ (.slice Ao147 t170.length co147)).setCell ⟨gb174, 2, none⟩ (.string t173)) w.heap.size (fun k_ => some k_ ≠ (.slice Ao128 y157.length co128 : Value).ownBlock ∧ k_ ≠ gb147) (.slice Ao129 y160.length co129) y160) := ⟨by (with_reducible repeat (first | apply Kd.R_alloc | apply Kd.R_drewN | apply Kd.R_drew)); exact Kd.R_mono (Kd.R_far (p := ⟨gb174, 2, none⟩) (Kd.R_far (p := ⟨gb174, 1, none⟩) (Kd.R_far (p := ⟨gb174, 0, none⟩) (Kd.R_types HO162.out BK174.out (by decide)) (fun _ hk => hk.2) (.int .i64 t169)) (fun _ hk => hk.2) (.slice Ao147 t170.length co147)) (fun _ hk => hk.2) (.string t173)) (fun _ hk => ⟨hk.1.1, hk.1.2⟩)⟩
                  have n2_ : Aside0 (Kd.R Kd.string 9 (((w141.setCell ⟨gb174, 0, none⟩ (.int .i64 t169)).setCell ⟨gb174, 1, none⟩ (.slice Ao147 t170.length co147)).setCell ⟨gb174, 2, none⟩ (.string t173)) w.heap.size (fun k_ => some k_ ≠ (.slice Ao147 t170.length co147 : Value).ownBlock) (.slice Ao138 t164.length co138) t164) := ⟨by (with_reducible repeat (first | apply Kd.R_alloc | apply Kd.R_drewN | apply Kd.R_drew)); exact Kd.R_mono (Kd.R_far (p := ⟨gb174, 2, none⟩) (Kd.R_far (p := ⟨gb174, 1, none⟩) (Kd.R_far (p := ⟨gb174, 0, none⟩) (Kd.R_types HO166.out BK174.out (by decide)) (fun _ hk => hk.2) (.int .i64 t169)) (fun _ hk => hk.2) (.slice Ao147 t170.length co147)) (fun _ hk => hk.2) (.string t173)) (fun _ hk => hk.1.2)⟩
                  have n3_ : Aside0 (Kd.R Kd.string 9 (((w141.setCell ⟨gb174, 0, none⟩ (.int .i64 t169)).setCell ⟨gb174, 1, none⟩ (.slice Ao147 t170.length co147)).setCell ⟨gb174, 2, none⟩ (.string t173)) w.heap.size (fun k_ => some k_ ≠ (.slice Ao138 t164.length co138 : Value).ownBlock) (.slice Ao147 t170.length co147) t170) := ⟨by (with_reducible repeat (first | apply Kd.R_alloc | apply Kd.R_drewN | apply Kd.R_drew)); exact Kd.R_mono (Kd.R_far (p := ⟨gb174, 2, none⟩) (Kd.R_far (p := ⟨gb174, 1, none⟩) (Kd.R_far (p := ⟨gb174, 0, none⟩) (Kd.R_types HO172.out BK174.out (by decide)) (fun _ hk => hk.2) (.int .i64 t169)) (fun _ hk => hk.2) (.slice Ao147 t170.length co147)) (fun _ hk => hk.2) (.string t173)) (fun _ hk => hk.1.2)⟩
                  have n4_ : Aside0 ((((w141.setCell ⟨gb174, 0, none⟩ (.int .i64 t169)).setCell ⟨gb174, 1, none⟩ (.slice Ao147 t170.length co147)).setCell ⟨gb174, 2, none⟩ (.string t173)).heap[gb146]? = some (.cells #[.slice A0_0 l0_0.length c0_0, .slice A0_1 l0_1.length c0_1, .bool a0_2, .string a0_3] 30 (0, 0))) := ⟨by (with_reducible repeat (first | refine blk_drewN ?_ _ | refine blk_drew ?_ | refine blk_alloc ?_ _)); refine blk_far ?_ NB146_174.out _; (with_reducible repeat (first | refine blk_drewN ?_ _ | refine blk_drew ?_ | refine blk_alloc ?_ _)); refine blk_far ?_ NB146_174.out _; (with_reducible repeat (first | refine blk_drewN ?_ _ | refine blk_drew ?_ | refine blk_alloc ?_ _)); refine blk_far ?_ NB146_174.out _; (with_reducible repeat (first | refine blk_drewN ?_ _ | refine blk_drew ?_ | refine blk_alloc ?_ _)); exact BK146.out⟩
                  have n5_ : Aside0 ((((w141.setCell ⟨gb174, 0, none⟩ (.int .i64 t169)).setCell ⟨gb174, 1, none⟩ (.slice Ao147 t170.length co147)).setCell ⟨gb174, 2, none⟩ (.string t173)).heap[gb147]? = some (.cells #[.string a1_0, .bool a1_1, .bool a1_2] 39 (0, 0))) := ⟨by (with_reducible repeat (first | refine blk_drewN ?_ _ | refine blk_drew ?_ | refine blk_alloc ?_ _)); refine blk_far ?_ NB147_174.out _; (with_reducible repeat (first | refine blk_drewN ?_ _ | refine blk_drew ?_ | refine blk_alloc ?_ _)); refine blk_far ?_ NB147_174.out _; (with_reducible repeat (first | refine blk_drewN ?_ _ | refine blk_drew ?_ | refine blk_alloc ?_ _)); refine blk_far ?_ NB147_174.out _; (with_reducible repeat (first | refine blk_drewN ?_ _ | refine blk_drew ?_ | refine blk_alloc ?_ _)); exact BK147.out⟩
                  have n6_ : Aside0 ((((w141.setCell ⟨gb174, 0, none⟩ (.int .i64 t169)).setCell ⟨gb174, 1, none⟩ (.slice Ao147 t170.length co147)).setCell ⟨gb174, 2, none⟩ (.string t173)).heap[gb150]? = some (.cells #[.slice A0_0 l0_0.length c0_0, .slice Ao129 y160.length co129, .bool a0_2, .string a0_3] 30 (0, 0))) := ⟨by (with_reducible repeat (first | refine blk_drewN ?_ _ | refine blk_drew ?_ | refine blk_alloc ?_ _)); refine blk_far ?_ NB150_174.out _; (with_reducible repeat (first | refine blk_drewN ?_ _ | refine blk_drew ?_ | refine blk_alloc ?_ _)); refine blk_far ?_ NB150_174.out _; (with_reducible repeat (first | refine blk_drewN ?_ _ | refine blk_drew ?_ | refine blk_alloc ?_ _)); refine blk_far ?_ NB150_174.out _; (with_reducible repeat (first | refine blk_drewN ?_ _ | refine blk_drew ?_ | refine blk_alloc ?_ _)); exact BK150.out⟩
                  have n7_ : Aside0 ((((w141.setCell ⟨gb174, 0, none⟩ (.int .i64 t169)).setCell ⟨gb174, 1, none⟩ (.slice Ao147 t170.length co147)).setCell ⟨gb174, 2, none⟩ (.string t173)).heap[gb168]? = some (.cells #[.int .i64 t163, .slice Ao138 t164.length co138, .string t167] 44 (0, 0))) := ⟨by (with_reducible repeat (first | refine blk_drewN ?_ _ | refine blk_drew ?_ | refine blk_alloc ?_ _)); refine blk_far ?_ NB168_174.out _; (with_reducible repeat (first | refine blk_drewN ?_ _ | refine blk_drew ?_ | refine blk_alloc ?_ _)); refine blk_far ?_ NB168_174.out _; (with_reducible repeat (first | refine blk_drewN ?_ _ | refine blk_drew ?_ | refine blk_alloc ?_ _)); refine blk_far ?_ NB168_174.out _; (with_reducible repeat (first | refine blk_drewN ?_ _ | refine blk_drew ?_ | refine blk_alloc ?_ _)); exact BK168.out⟩
                  have n8_ : Aside0 ((((w141.setCell ⟨gb174, 0, none⟩ (.int .i64 t169)).setCell ⟨gb174, 1, none⟩ (.slice Ao147 t170.length co147)).setCell ⟨gb174, 2, none⟩ (.string t173)).heap[gb174]? = some (.cells #[.int .i64 t169, .slice Ao147 t170.length co147, .string t173] 44 (0, 0))) := ⟨by (with_reducible repeat (first | refine blk_drewN ?_ _ | refine blk_drew ?_ | refine blk_alloc ?_ _)); refine blk_put (cs := #[.int .i64 t169, .slice Ao147 t170.length co147, .string (⟨#[]⟩ : ByteArray)]) ?_ 2 _ rfl; (with_reducible repeat (first | refine blk_drewN ?_ _ | refine blk_drew ?_ | refine blk_alloc ?_ _)); refine blk_put (cs := #[.int .i64 t169, .slice none 0 0, .string (⟨#[]⟩ : ByteArray)]) ?_ 1 _ rfl; (with_reducible repeat (first | refine blk_drewN ?_ _ | refine blk_drew ?_ | refine blk_alloc ?_ _)); refine blk_put (cs := #[.int .i64 0, .slice none 0 0, .string (⟨#[]⟩ : ByteArray)]) ?_ 0 _ rfl; (with_reducible repeat (first | refine blk_drewN ?_ _ | refine blk_drew ?_ | refine blk_alloc ?_ _)); exact BK174.out⟩
                  have n9_ : Aside0 (Below w.heap.size w (((w141.setCell ⟨gb174, 0, none⟩ (.int .i64 t169)).setCell ⟨gb174, 1, none⟩ (.slice Ao147 t170.length co147)).setCell ⟨gb174, 2, none⟩ (.string t173))) := ⟨by repeat (first | (with_reducible first | exact HB.out | apply below_alloc | apply pw_below_drewN | apply below_drew1 | refine below_set ?_ GE146.out | refine below_set ?_ GE147.out | refine below_set ?_ GE150.out | refine below_set ?_ GE168.out | refine below_set ?_ GE174.out) | exact HB.out)⟩
                  (try clear HO159)
                  (try clear HO162)
                  (try clear HO166)
                  (try clear HO172)
                  (try clear BK146)
                  (try clear BK147)
                  (try clear BK150)
                  (try clear BK168)
                  (try clear BK174)
                  (try clear HB)
                  generalize (((w141.setCell ⟨gb174, 0, none⟩ (.int .i64 t169)).setCell ⟨gb174, 1, none⟩ (.slice Ao147 t170.length co147)).setCell ⟨gb174, 2, none⟩ (.string t173)) = w148 at n0_ n1_ n2_ n3_ n4_ n5_ n6_ n7_ n8_ n9_ ⊢
                  have HO159 := n0_
                  have HO162 := n1_
                  have HO166 := n2_
                  have HO172 := n3_
                  have BK146 := n4_
                  have BK147 := n5_
                  have BK150 := n6_
                  have BK168 := n7_
                  have BK174 := n8_
                  have HB := n9_
                  clear n0_ n1_ n2_ n3_ n4_ n5_ n6_ n7_ n8_ n9_
                  have n0_ := Aside0.mk (Kd.R_drew HO159.out)
                  have n1_ := Aside0.mk (Kd.R_drew HO162.out)
                  have n2_ := Aside0.mk (Kd.R_drew HO166.out)
                  have n3_ := Aside0.mk (Kd.R_drew HO172.out)
                  have n4_ := Aside0.mk (blk_drew BK146.out)
                  have n5_ := Aside0.mk (blk_drew BK147.out)
                  have n6_ := Aside0.mk (blk_drew BK150.out)
                  have n7_ := Aside0.mk (blk_drew BK168.out)
                  have n8_ := Aside0.mk (blk_drew BK174.out)
                  have n9_ := Aside0.mk (below_drew1 HB.out)
                  clear HO159
                  clear HO162
                  clear HO166
                  clear HO172
                  clear BK146
                  clear BK147
                  clear BK150
                  clear BK168
                  clear BK174
                  clear HB
                  have HO159 := n0_
                  have HO162 := n1_
                  have HO166 := n2_
                  have HO172 := n3_
                  have BK146 := n4_
                  have BK147 := n5_
                  have BK150 := n6_
                  have BK168 := n7_
                  have BK174 := n8_
                  have HB := n9_
                  clear n0_ n1_ n2_ n3_ n4_ n5_ n6_ n7_ n8_ n9_
                  refine start_ (n := 16) (S := fun w' => w'.cell? ⟨gb174, 0, none⟩ = some (.int .i64 t169) ∧ w'.cell? ⟨gb174, 1, none⟩ = some (.slice Ao147 t170.length co147) ∧ w'.cell? ⟨gb174, 2, none⟩ = some (.string t173) ∧ w'.cell? ⟨gb168, 0, none⟩ = some (.int .i64 t163) ∧ w'.cell? ⟨gb168, 1, none⟩ = some (.slice Ao138 t164.length co138) ∧ w'.cell? ⟨gb168, 2, none⟩ = some (.string t167) ∧ w'.cell? ⟨gb150, 0, none⟩ = some (.slice A0_0 l0_0.length c0_0) ∧ w'.cell? ⟨gb150, 1, none⟩ = some (.slice Ao129 y160.length co129) ∧ w'.cell? ⟨gb150, 2, none⟩ = some (.bool a0_2) ∧ w'.cell? ⟨gb150, 3, none⟩ = some (.string a0_3)) (ds := []) #[false, false, false, false, false, false, false, false, false, false, false, false, false, false, false, false] (by kernel_rfl) rfl rfl ⟨(blk_cell BK174.out 0).trans rfl, (blk_cell BK174.out 1).trans rfl, (blk_cell BK174.out 2).trans rfl, (blk_cell BK168.out 0).trans rfl, (blk_cell BK168.out 1).trans rfl, (blk_cell BK168.out 2).trans rfl, (blk_cell BK150.out 0).trans rfl, (blk_cell BK150.out 1).trans rfl, (blk_cell BK150.out 2).trans rfl, (blk_cell BK150.out 3).trans rfl⟩ (fun hHeld => ?_); refine with_tabW doorkeeperlaw23_DecideMore.tab7 doorkeeperlaw23_DecideMore.bits7 (fun HT_ HW_ => ?_)
                  generalize w148.drew = w149 at HO159 HO162 HO166 HO172 BK146 BK147 BK150 BK168 BK174 HB hHeld ⊢
                  refine pure_ (i := 0) (N := some 48) (v := ?_) (a' := ?_) #[true, false, false, false, false, false, false, false, false, false, false, false, false, false, false, false] rfl rfl (any_of HT_.out (by kernel_rfl)) (fun _ _ _ h => h) (Or.inl ⟨by rfl, ?_⟩) ?_ ?_
                  rotate_left
                  · intro w'
                    go_simp
                    with_reducible rfl
                  rotate_left
                  · simp only [Act.put, List.setIfInBounds_toArray, List.set_cons_zero, List.set_cons_succ, i64_w, i32_w]
                    rfl
                  refine pure_ (i := 3) (N := some 51) (v := ?_) (a' := ?_) #[true, false, false, true, false, false, false, false, false, false, false, false, false, false, false, false] rfl rfl (any_of HT_.out (by kernel_rfl)) (fun _ _ _ h => h) (Or.inl ⟨by rfl, ?_⟩) ?_ ?_
                  rotate_left
                  · intro w'
                    go_simp
                    with_reducible rfl
                  rotate_left
                  · simp only [Act.put, List.setIfInBounds_toArray, List.set_cons_zero, List.set_cons_succ, i64_w, i32_w]
                    rfl
                  refine take_ (i := 1) (N := some 49) (v := ?_) (a' := ?_) #[true, true, false, true, false, false, false, false, false, false, false, false, false, false, false, false] rfl rfl (take_ofW HT_.out HW_.out (by kernel_rfl)) (fun _ _ _ h => h) (Or.inl ⟨by rfl, ?_⟩) hHeld ?_ ?_
                  rotate_left
                  · rintro w' ⟨s0, s1, s2, s3, s4, s5, s6, s7, s8, s9⟩
                    go_simp
                    with_reducible rfl
                  rotate_left
                  · simp only [Act.put, List.setIfInBounds_toArray, List.set_cons_zero, List.set_cons_succ, i64_w, i32_w]
                    rfl
                  refine pure_ (i := 2) (N := some 50) (v := ?_) (a' := ?_) #[true, true, true, true, false, false, false, false, false, false, false, false, false, false, false, false] rfl rfl (any_of HT_.out (by kernel_rfl)) (fun _ _ _ h => h) (Or.inl ⟨by rfl, ?_⟩) ?_ ?_
                  rotate_left
                  · intro w'
                    go_simp
                    with_reducible rfl
                  rotate_left
                  · simp only [Act.put, List.setIfInBounds_toArray, List.set_cons_zero, List.set_cons_succ, i64_w, i32_w]
                    rfl
                  refine take_ (i := 4) (N := some 52) (v := ?_) (a' := ?_) #[true, true, true, true, true, false, false, false, false, false, false, false, false, false, false, false] rfl rfl (take_ofW HT_.out HW_.out (by kernel_rfl)) (fun _ _ _ h => h) (Or.inl ⟨by rfl, ?_⟩) hHeld ?_ ?_
                  rotate_left
                  · rintro w' ⟨s0, s1, s2, s3, s4, s5, s6, s7, s8, s9⟩
                    go_simp
                    with_reducible rfl
                  rotate_left
                  · simp only [Act.put, List.setIfInBounds_toArray, List.set_cons_zero, List.set_cons_succ, i64_w, i32_w]
                    rfl
                  refine pure_ (i := 5) (N := some 53) (v := ?_) (a' := ?_) #[true, true, true, true, true, true, false, false, false, false, false, false, false, false, false, false] rfl rfl (any_of HT_.out (by kernel_rfl)) (fun _ _ _ h => h) (Or.inl ⟨by rfl, ?_⟩) ?_ ?_
                  rotate_left
                  · intro w'
                    go_simp
                    with_reducible rfl
                  rotate_left
                  · simp only [Act.put, List.setIfInBounds_toArray, List.set_cons_zero, List.set_cons_succ, i64_w, i32_w]
                    rfl
                  refine pure_ (i := 6) (N := some 54) (v := ?_) (a' := ?_) #[true, true, true, true, true, true, true, false, false, false, false, false, false, false, false, false] rfl rfl (any_of HT_.out (by kernel_rfl)) (fun _ _ _ h => h) (Or.inl ⟨by rfl, ?_⟩) ?_ ?_
                  rotate_left
                  · intro w'
                    go_simp
                    with_reducible rfl
                  rotate_left
                  · simp only [Act.put, List.setIfInBounds_toArray, List.set_cons_zero, List.set_cons_succ, i64_w, i32_w]
                    rfl
                  refine pure_ (i := 7) (N := some 55) (v := ?_) (a' := ?_) #[true, true, true, true, true, true, true, true, false, false, false, false, false, false, false, false] rfl rfl (any_of HT_.out (by kernel_rfl)) (fun _ _ _ h => h) (Or.inl ⟨by rfl, ?_⟩) ?_ ?_
                  rotate_left
                  · intro w'
                    go_simp
                    with_reducible rfl
                  rotate_left
                  · simp only [Act.put, List.setIfInBounds_toArray, List.set_cons_zero, List.set_cons_succ, i64_w, i32_w]
                    rfl
                  refine pure_ (i := 10) (N := some 58) (v := ?_) (a' := ?_) #[true, true, true, true, true, true, true, true, false, false, true, false, false, false, false, false] rfl rfl (any_of HT_.out (by kernel_rfl)) (fun _ _ _ h => h) (Or.inl ⟨by rfl, ?_⟩) ?_ ?_
                  rotate_left
                  · intro w'
                    go_simp
                    with_reducible rfl
                  rotate_left
                  · simp only [Act.put, List.setIfInBounds_toArray, List.set_cons_zero, List.set_cons_succ, i64_w, i32_w]
                    rfl
                  refine pure_ (i := 11) (N := some 59) (v := ?_) (a' := ?_) #[true, true, true, true, true, true, true, true, false, false, true, true, false, false, false, false] rfl rfl (any_of HT_.out (by kernel_rfl)) (fun _ _ _ h => h) (Or.inl ⟨by rfl, ?_⟩) ?_ ?_
                  rotate_left
                  · intro w'
                    go_simp
                    with_reducible rfl
                  rotate_left
                  · simp only [Act.put, List.setIfInBounds_toArray, List.set_cons_zero, List.set_cons_succ, i64_w, i32_w]
                    rfl
                  refine take_ (i := 8) (N := some 56) (v := ?_) (a' := ?_) #[true, true, true, true, true, true, true, true, true, false, true, true, false, false, false, false] rfl rfl (take_ofW HT_.out HW_.out (by kernel_rfl)) (fun _ _ _ h => h) (Or.inl ⟨by rfl, ?_⟩) hHeld ?_ ?_
                  rotate_left
                  · rintro w' ⟨s0, s1, s2, s3, s4, s5, s6, s7, s8, s9⟩
                    go_simp
                    with_reducible rfl
                  rotate_left
                  · simp only [Act.put, List.setIfInBounds_toArray, List.set_cons_zero, List.set_cons_succ, i64_w, i32_w]
                    rfl
                  refine take_ (i := 9) (N := some 57) (v := ?_) (a' := ?_) #[true, true, true, true, true, true, true, true, true, true, true, true, false, false, false, false] rfl rfl (take_ofW HT_.out HW_.out (by kernel_rfl)) (fun _ _ _ h => h) (Or.inl ⟨by rfl, ?_⟩) hHeld ?_ ?_
                  rotate_left
                  · rintro w' ⟨s0, s1, s2, s3, s4, s5, s6, s7, s8, s9⟩
                    go_simp
                    with_reducible rfl
                  rotate_left
                  · simp only [Act.put, List.setIfInBounds_toArray, List.set_cons_zero, List.set_cons_succ, i64_w, i32_w]
                    rfl
                  refine one_ (i := 12) (N := some 60) #[true, true, true, true, true, true, true, true, true, true, true, true, true, false, false, false] rfl rfl (one_of HT_.out (by kernel_rfl)) (by decide) (fun K hK => ?_)
                  refine goes_ Tryd.func29 (by kernel_rfl) rfl #[.agg #[.slice A0_0 l0_0.length c0_0, .slice Ao129 y160.length co129, .bool a0_2, .string a0_3], .string a2, .string a3] (by rfl) rfl rfl (by (try simp only [List.map_toArray, List.map_cons, List.map_nil]); first | done | rfl | (simp only [List.length_drop, List.length_take]; rfl)) ?_
                  with_reducible refine (doorkeeperref23_By.calls kj4 _ _ l0_0 _ _ y160 a0_2 a0_3 a2 a3 t175 t176 t179 _ ?side1 ?side2 ?side3 ?side4 A67.out).mono ?_
                  (case side1 => repeat (first | exact (Kd.C_below HR0_0.out HB.out) | (with_reducible refine Kd.C_alloc ?_ _) | (with_reducible refine Kd.C_drewN ?_ _) | (with_reducible refine Kd.C_drew ?_)))
                  (case side2 => exact HC0_0.out)
                  (case side3 => repeat (first | exact (Kd.R_reads' HO162.out).2.2 | (with_reducible refine Kd.C_alloc ?_ _) | (with_reducible refine Kd.C_drewN ?_ _) | (with_reducible refine Kd.C_drew ?_)))
                  (case side4 => exact (Kd.R_reads' HO162.out).2.1)
                  rintro e w150 ⟨v177, rfl, ho0, hb⟩
                  refine ⟨_, rfl, ?_⟩
                  have n0_ := Aside0.mk (Kd.R_below (by (with_reducible repeat (first | apply Kd.R_alloc | apply Kd.R_drewN | apply Kd.R_drew)); exact HO159.out) hb)
                  have n1_ := Aside0.mk (Kd.R_below (by (with_reducible repeat (first | apply Kd.R_alloc | apply Kd.R_drewN | apply Kd.R_drew)); exact HO162.out) hb)
                  have n2_ := Aside0.mk (Kd.R_elder' (by (with_reducible repeat (first | apply Kd.R_alloc | apply Kd.R_drewN | apply Kd.R_drew)); exact HO166.out) (Kd.R_base ho0) hb)
                  have n3_ := Aside0.mk (Kd.R_elder' (by (with_reducible repeat (first | apply Kd.R_alloc | apply Kd.R_drewN | apply Kd.R_drew)); exact HO172.out) (Kd.R_base ho0) hb)
                  have n4_ := Aside0.mk (Kd.R_lower (Kd.R_new' (Kd.R_new' ho0 (Kd.R_lt (by (with_reducible repeat (first | apply Kd.R_alloc | apply Kd.R_drewN | apply Kd.R_drew)); exact HO166.out))) (Kd.R_lt (by (with_reducible repeat (first | apply Kd.R_alloc | apply Kd.R_drewN | apply Kd.R_drew)); exact HO172.out))) (below_size (by repeat (first | (with_reducible first | exact HB.out | apply below_alloc | apply pw_below_drewN | apply below_drew1 | refine below_set ?_ GE146.out | refine below_set ?_ GE147.out | refine below_set ?_ GE150.out | refine below_set ?_ GE168.out | refine below_set ?_ GE174.out) | exact HB.out))))
                  have n5_ := Aside0.mk (blk_below (g := gb146) (o := .cells #[.slice A0_0 l0_0.length c0_0, .slice A0_1 l0_1.length c0_1, .bool a0_2, .string a0_3] 30 (0, 0)) (by (with_reducible repeat (first | refine blk_drewN ?_ _ | refine blk_drew ?_ | refine blk_alloc ?_ _)); exact BK146.out) hb)
                  have n6_ := Aside0.mk (blk_below (g := gb147) (o := .cells #[.string a1_0, .bool a1_1, .bool a1_2] 39 (0, 0)) (by (with_reducible repeat (first | refine blk_drewN ?_ _ | refine blk_drew ?_ | refine blk_alloc ?_ _)); exact BK147.out) hb)
                  have n7_ := Aside0.mk (blk_below (g := gb150) (o := .cells #[.slice A0_0 l0_0.length c0_0, .slice Ao129 y160.length co129, .bool a0_2, .string a0_3] 30 (0, 0)) (by (with_reducible repeat (first | refine blk_drewN ?_ _ | refine blk_drew ?_ | refine blk_alloc ?_ _)); exact BK150.out) hb)
                  have n8_ := Aside0.mk (blk_below (g := gb168) (o := .cells #[.int .i64 t163, .slice Ao138 t164.length co138, .string t167] 44 (0, 0)) (by (with_reducible repeat (first | refine blk_drewN ?_ _ | refine blk_drew ?_ | refine blk_alloc ?_ _)); exact BK168.out) hb)
                  have n9_ := Aside0.mk (blk_below (g := gb174) (o := .cells #[.int .i64 t169, .slice Ao147 t170.length co147, .string t173] 44 (0, 0)) (by (with_reducible repeat (first | refine blk_drewN ?_ _ | refine blk_drew ?_ | refine blk_alloc ?_ _)); exact BK174.out) hb)
                  have n10_ := Aside0.mk (below_step (by repeat (first | (with_reducible first | exact HB.out | apply below_alloc | apply pw_below_drewN | apply below_drew1 | refine below_set ?_ GE146.out | refine below_set ?_ GE147.out | refine below_set ?_ GE150.out | refine below_set ?_ GE168.out | refine below_set ?_ GE174.out) | exact HB.out)) hb)
                  clear HO159
                  clear HO162
                  clear HO166
                  clear HO172
                  clear BK146
                  clear BK147
                  clear BK150
                  clear BK168
                  clear BK174
                  clear HB
                  have HO159 := n0_
                  have HO162 := n1_
                  have HO166 := n2_
                  have HO172 := n3_
                  have HO178 := n4_
                  have BK146 := n5_
                  have BK147 := n6_
                  have BK150 := n7_
                  have BK168 := n8_
                  have BK174 := n9_
                  have HB := n10_
                  clear n0_ n1_ n2_ n3_ n4_ n5_ n6_ n7_ n8_ n9_ n10_
                  (try clear hb)
                  (try clear hb2)
                  (try clear hk)
                  (try clear hi)
                  (try clear ho0)
                  obtain ⟨Ao151, co151, eo151⟩ := Kd.R_slice HO178.out
                  (first | subst eo151 | (injection eo151 with f1_ f2_ f3_; have f4_ := f1_.symm; have f5_ := f3_.symm; clear f1_ f2_ f3_; subst f4_; subst f5_))
                  refine hK.out _ _ ⟨(blk_cell BK174.out 0).trans rfl, (blk_cell BK174.out 1).trans rfl, (blk_cell BK174.out 2).trans rfl, (blk_cell BK168.out 0).trans rfl, (blk_cell BK168.out 1).trans rfl, (blk_cell BK168.out 2).trans rfl, (blk_cell BK150.out 0).trans rfl, (blk_cell BK150.out 1).trans rfl, (blk_cell BK150.out 2).trans rfl, (blk_cell BK150.out 3).trans rfl⟩ (fun hHeld => ?_)
                  clear hK K
                  refine norm_ (a' := ?_) ?_ ?_
                  rotate_left
                  · show Act.put _ (some 60) _ = _
                    simp only [Act.put, List.setIfInBounds_toArray, List.set_cons_zero, List.set_cons_succ, i64_w, i32_w]
                    rfl
                  refine one_ (i := 13) (N := some 61) #[true, true, true, true, true, true, true, true, true, true, true, true, true, true, false, false] rfl rfl (one_of HT_.out (by kernel_rfl)) (by decide) (fun K hK => ?_)
                  refine goes_ Tryd.func27 (by kernel_rfl) rfl #[.agg #[.int .i64 t169, .slice Ao147 t170.length co147, .string t173], .agg #[.int .i64 t175, .slice Ao151 t176.length co151, .string t179]] (by rfl) rfl rfl (by (try simp only [List.map_toArray, List.map_cons, List.map_nil]); first | done | rfl | (simp only [List.length_drop, List.length_take]; rfl)) ?_
                  with_reducible refine (doorkeeperref23_Same.calls kj4 t169 _ _ t170 t173 t175 _ _ t176 t179 true _ ?side1 ?side2 ?side3 ?side4 A68.out).mono ?_
                  (case side1 => repeat (first | exact (Kd.R_reads' HO172.out).2.2 | (with_reducible refine Kd.C_alloc ?_ _) | (with_reducible refine Kd.C_drewN ?_ _) | (with_reducible refine Kd.C_drew ?_)))
                  (case side2 => exact (Kd.R_reads' HO172.out).2.1)
                  (case side3 => repeat (first | exact (Kd.R_reads' HO178.out).2.2 | (with_reducible refine Kd.C_alloc ?_ _) | (with_reducible refine Kd.C_drewN ?_ _) | (with_reducible refine Kd.C_drew ?_)))
                  (case side4 => exact (Kd.R_reads' HO178.out).2.1)
                  rintro e w152 ⟨rfl, hb⟩
                  refine ⟨_, rfl, ?_⟩
                  have n0_ := Aside0.mk (Kd.R_below (by (with_reducible repeat (first | apply Kd.R_alloc | apply Kd.R_drewN | apply Kd.R_drew)); exact HO159.out) hb)
                  have n1_ := Aside0.mk (Kd.R_below (by (with_reducible repeat (first | apply Kd.R_alloc | apply Kd.R_drewN | apply Kd.R_drew)); exact HO162.out) hb)
                  have n2_ := Aside0.mk (Kd.R_below (by (with_reducible repeat (first | apply Kd.R_alloc | apply Kd.R_drewN | apply Kd.R_drew)); exact HO166.out) hb)
                  have n3_ := Aside0.mk (Kd.R_below (by (with_reducible repeat (first | apply Kd.R_alloc | apply Kd.R_drewN | apply Kd.R_drew)); exact HO172.out) hb)
                  have n4_ := Aside0.mk (Kd.R_below (by (with_reducible repeat (first | apply Kd.R_alloc | apply Kd.R_drewN | apply Kd.R_drew)); exact HO178.out) hb)
                  have n5_ := Aside0.mk (blk_below (g := gb146) (o := .cells #[.slice A0_0 l0_0.length c0_0, .slice A0_1 l0_1.length c0_1, .bool a0_2, .string a0_3] 30 (0, 0)) (by (with_reducible repeat (first | refine blk_drewN ?_ _ | refine blk_drew ?_ | refine blk_alloc ?_ _)); exact BK146.out) hb)
                  have n6_ := Aside0.mk (blk_below (g := gb147) (o := .cells #[.string a1_0, .bool a1_1, .bool a1_2] 39 (0, 0)) (by (with_reducible repeat (first | refine blk_drewN ?_ _ | refine blk_drew ?_ | refine blk_alloc ?_ _)); exact BK147.out) hb)
                  have n7_ := Aside0.mk (blk_below (g := gb150) (o := .cells #[.slice A0_0 l0_0.length c0_0, .slice Ao129 y160.length co129, .bool a0_2, .string a0_3] 30 (0, 0)) (by (with_reducible repeat (first | refine blk_drewN ?_ _ | refine blk_drew ?_ | refine blk_alloc ?_ _)); exact BK150.out) hb)
                  have n8_ := Aside0.mk (blk_below (g := gb168) (o := .cells #[.int .i64 t163, .slice Ao138 t164.length co138, .string t167] 44 (0, 0)) (by (with_reducible repeat (first | refine blk_drewN ?_ _ | refine blk_drew ?_ | refine blk_alloc ?_ _)); exact BK168.out) hb)
                  have n9_ := Aside0.mk (blk_below (g := gb174) (o := .cells #[.int .i64 t169, .slice Ao147 t170.length co147, .string t173] 44 (0, 0)) (by (with_reducible repeat (first | refine blk_drewN ?_ _ | refine blk_drew ?_ | refine blk_alloc ?_ _)); exact BK174.out) hb)
                  have n10_ := Aside0.mk (below_step (by repeat (first | (with_reducible first | exact HB.out | apply below_alloc | apply pw_below_drewN | apply below_drew1 | refine below_set ?_ GE146.out | refine below_set ?_ GE147.out | refine below_set ?_ GE150.out | refine below_set ?_ GE168.out | refine below_set ?_ GE174.out) | exact HB.out)) hb)
                  clear HO159
                  clear HO162
                  clear HO166
                  clear HO172
                  clear HO178
                  clear BK146
                  clear BK147
                  clear BK150
                  clear BK168
                  clear BK174
                  clear HB
                  have HO159 := n0_
                  have HO162 := n1_
                  have HO166 := n2_
                  have HO172 := n3_
                  have HO178 := n4_
                  have BK146 := n5_
                  have BK147 := n6_
                  have BK150 := n7_
                  have BK168 := n8_
                  have BK174 := n9_
                  have HB := n10_
                  clear n0_ n1_ n2_ n3_ n4_ n5_ n6_ n7_ n8_ n9_ n10_
                  (try clear hb)
                  (try clear hb2)
                  (try clear hk)
                  (try clear hi)
                  refine hK.out _ _ ⟨(blk_cell BK174.out 0).trans rfl, (blk_cell BK174.out 1).trans rfl, (blk_cell BK174.out 2).trans rfl, (blk_cell BK168.out 0).trans rfl, (blk_cell BK168.out 1).trans rfl, (blk_cell BK168.out 2).trans rfl, (blk_cell BK150.out 0).trans rfl, (blk_cell BK150.out 1).trans rfl, (blk_cell BK150.out 2).trans rfl, (blk_cell BK150.out 3).trans rfl⟩ (fun hHeld => ?_)
                  clear hK K
                  refine norm_ (a' := ?_) ?_ ?_
                  rotate_left
                  · show Act.put _ (some 61) _ = _
                    simp only [Act.put, List.setIfInBounds_toArray, List.set_cons_zero, List.set_cons_succ, i64_w, i32_w]
                    rfl
                  refine pure_ (i := 14) (N := some 62) (v := ?_) (a' := ?_) #[true, true, true, true, true, true, true, true, true, true, true, true, true, true, true, false] rfl rfl (any_of HT_.out (by kernel_rfl)) (fun _ _ _ h => h) (Or.inl ⟨by rfl, ?_⟩) ?_ ?_
                  rotate_left
                  · intro w'
                    go_simp
                    with_reducible rfl
                  rotate_left
                  · simp only [Act.put, List.setIfInBounds_toArray, List.set_cons_zero, List.set_cons_succ, i64_w, i32_w]
                    rfl
                  refine pure_ (i := 15) (N := some 63) (v := ?_) (a' := ?_) #[true, true, true, true, true, true, true, true, true, true, true, true, true, true, true, true] rfl rfl (any_of HT_.out (by kernel_rfl)) (fun _ _ _ h => h) (Or.inl ⟨by rfl, ?_⟩) ?_ ?_
                  rotate_left
                  · intro w'
                    go_simp
                    with_reducible rfl
                  rotate_left
                  · simp only [Act.put, List.setIfInBounds_toArray, List.set_cons_zero, List.set_cons_succ, i64_w, i32_w]
                    rfl
                  refine done_ (done_of HT_.out (by kernel_rfl)) ?_
                  have hcz153_0 : w152.cell? ⟨gb168, 0, none⟩ = some (.int .i64 t163) := (blk_cell BK168.out 0).trans rfl
                  have hcz153_1 : w152.cell? ⟨gb168, 1, none⟩ = some (.slice Ao138 t164.length co138) := (blk_cell BK168.out 1).trans rfl
                  have hcz153_2 : w152.cell? ⟨gb168, 2, none⟩ = some (.string t167) := (blk_cell BK168.out 2).trans rfl
                  have hfz153_0 := blk_frozen BK168.out 0
                  have hfz153_1 := blk_frozen BK168.out 1
                  have hfz153_2 := blk_frozen BK168.out 2
                  try go_wp2
                  go_ret
                  exact ⟨by first | rfl | (simp [errW_none, errW_some] <;> rfl) | (simp [*, errW_none, errW_some] <;> rfl), by repeat (first | (with_reducible first | exact HB.out | apply below_alloc | apply pw_below_drewN | apply below_drew1 | refine below_set ?_ GE146.out | refine below_set ?_ GE147.out | refine below_set ?_ GE150.out | refine below_set ?_ GE168.out | refine below_set ?_ GE174.out) | exact HB.out)⟩
              · replace c69 := Bool.eq_false_iff.mpr c69
                subst c69
                have H1 : (some false) = some r := by rw [if_neg (show ¬ (false = true) by decide)] at H; exact H
                have h_ := (Option.some.inj H1).trans HRT.out
                cases h_
          · rw [if_neg c26] at H
            exact absurd H (by simp)
        · rw [if_neg c25] at H
          exact absurd H (by simp)

end Go.Proofs.YtjapmlfjlojbeaaDoor.PA
