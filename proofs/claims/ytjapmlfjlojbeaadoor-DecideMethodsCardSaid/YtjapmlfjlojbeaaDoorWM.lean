/- DecideMethods, walked and proved: whether a path is seen does not depend on the method. Conditions: those of the contract's statement. -/
import Derived.Test.YtjapmlfjlojbeaaDoorHD
namespace Go.Proofs.YtjapmlfjlojbeaaDoor.PA
open Go.RowKit Go.Proofs.YtjapmlfjlojbeaaDoorW.PrintWords Go.Proofs.YtjapmlfjlojbeaaDoorW.PrintLast Go.Proofs.YtjapmlfjlojbeaaDoorW.PrintMore
set_option linter.unusedVariables false
set_option linter.unusedSimpArgs false

theorem dm_opt (g : List S39) (s m : ByteArray) (h : granted g s m = true) : granted g s OPTIONS = true := by
  have ho := granted_or g s
  unfold granted at h
  split at h
  · rw [ho, granted_get, h]
    rfl
  · split at h
    · rw [ho, granted_head, h]
      simp
    · split at h
      · rw [granted_options, h]
      · cases h
theorem dm_cases (g : List S39) (hd : Bool) (rl s a b : ByteArray) : (∃ i j, (i = 1 ∨ i = 4) ∧ (j = 1 ∨ j = 4) ∧ byv g hd rl s a = (i, meths g s, ⟨#[]⟩) ∧ byv g hd rl s b = (j, meths g s, ⟨#[]⟩)) ∨
    (byv g hd rl s a = (2, [], rl) ∧ byv g hd rl s b = (2, [], rl) ∧ s.toList = [] ∧ hd = false) ∨ (byv g hd rl s a = (3, [], ⟨#[]⟩) ∧ byv g hd rl s b = (3, [], ⟨#[]⟩)) := by
  by_cases hm : ((meths g s).length : Int) > 0
  · refine .inl ⟨if granted g s a = true then 1 else 4, if granted g s b = true then 1 else 4, ?_, ?_, ?_, ?_⟩
    · split <;> simp
    · split <;> simp
    · unfold byv
      by_cases h : granted g s a = true
      · rw [if_pos h, if_pos h]
      · rw [if_neg h, if_neg h, if_pos hm]
    · unfold byv
      by_cases h : granted g s b = true
      · rw [if_pos h, if_pos h]
      · rw [if_neg h, if_neg h, if_pos hm]
  · have no : ∀ m, ¬ granted g s m = true := fun m h => hm (by
      have : OPTIONS ∈ meths g s := List.mem_filter.2 ⟨by simp, dm_opt g s m h⟩
      have := List.length_pos_of_mem this
      omega)
    by_cases he : s.toList = ([] : List UInt8)
    · cases hd
      · refine .inr (.inl ⟨?_, ?_, he, rfl⟩)
        · unfold byv
          rw [if_neg (no a), if_neg hm, if_pos he, if_neg (by decide)]
        · unfold byv
          rw [if_neg (no b), if_neg hm, if_pos he, if_neg (by decide)]
      · refine .inr (.inr ⟨?_, ?_⟩)
        · unfold byv
          rw [if_neg (no a), if_neg hm, if_pos he, if_pos rfl]
        · unfold byv
          rw [if_neg (no b), if_neg hm, if_pos he, if_pos rfl]
    · refine .inr (.inr ⟨?_, ?_⟩)
      · unfold byv
        rw [if_neg (no a), if_neg hm, if_neg he]
      · unfold byv
        rw [if_neg (no b), if_neg hm, if_neg he]

set_option maxHeartbeats 4000000 in
theorem dm_any (A0 : Option Addr) (c0 : Nat) (l0 : List ByteArray) (A1 : Option Addr) (c1 : Nat) (l : List S39) (hd : Bool) (rl s a b : ByteArray) (w : World) (hr0 : Kd.C Kd.string w A0 l0.length l0) (hc0 : l0.length ≤ c0) (hr1 : Kd.C k39 w A1 l.length l) (hc1 : l.length ≤ c1) (hL : LaidD w) :
    Calls Tryd.prog 10 #[.agg #[.slice A0 l0.length c0, .slice A1 l.length c1, .bool hd, .string rl], .string s, .string a, .string b] w fun e w' => e = .returned (.bool true) ∧ Below w.heap.size w w' := by
  have hu := Tryd.underlying30
  have hu44 := Tryd.underlying44
  have HL := Aside0.mk hL
  have hb0 := below_alloc (Below.refl w.heap.size w) (.cells #[.slice A0 l0.length c0, .slice A1 l.length c1, .bool hd, .string rl] 30)
  have BR0 := Aside0.mk (blk_new w (.cells #[.slice A0 l0.length c0, .slice A1 l.length c1, .bool hd, .string rl] 30))
  have K0 := Aside0.mk (Kd.C_below hr0 hb0)
  have K1 := Aside0.mk (Kd.C_below hr1 hb0)
  have HB0 := Aside0.mk hb0
  have HC0 := Aside0.mk hc0
  have HC1 := Aside0.mk hc1
  clear hL hb0 hr0 hr1 hc0 hc1
  go_enter Tryd.func10, Tryd.ntmps10
  go_wp2_with (fail)
  refine (doorkeeperlaw23_awake.calls true _ rfl (HL.out.below HB0.out)).mono ?_
  rintro e W1 ⟨rfl, hb⟩
  have BR1 := Aside0.mk (blk_below BR0.out hb)
  have K01 := Aside0.mk (Kd.C_below K0.out hb)
  have K11 := Aside0.mk (Kd.C_below K1.out hb)
  have HB1 := Aside0.mk (below_step HB0.out hb)
  clear hb BR0 K0 K1 HB0
  have q0 : W1.cell? ⟨w.heap.size, 0, none⟩ = some (.slice A0 l0.length c0) := (blk_cell BR1.out 0).trans rfl
  have q1 : W1.cell? ⟨w.heap.size, 1, none⟩ = some (.slice A1 l.length c1) := (blk_cell BR1.out 1).trans rfl
  have q2 : W1.cell? ⟨w.heap.size, 2, none⟩ = some (.bool hd) := (blk_cell BR1.out 2).trans rfl
  have q3 : W1.cell? ⟨w.heap.size, 3, none⟩ = some (.string rl) := (blk_cell BR1.out 3).trans rfl
  by_cases e0 : (20 : Int) < (l.length : Int)
  · have d0 : decide ((20 : Int) < (l.length : Int)) = true := decide_eq_true e0
    clear e0
    go_wp2_with (fail)
    refine (doorkeeperlaw23_awake.calls true _ rfl (HL.out.below HB1.out)).mono ?_
    rintro e W2 ⟨rfl, hb⟩
    have HB2 := Aside0.mk (below_step HB1.out hb)
    clear hb
    go_wp2
    go_ret
    exact ⟨rfl, HB2.out⟩
  · have d0 : decide ((20 : Int) < (l.length : Int)) = false := decide_eq_false e0
    clear e0
    by_cases e1 : (60 : Int) < (s.size : Int)
    · have d1 : decide ((60 : Int) < (s.size : Int)) = true := decide_eq_true e1
      clear e1
      go_wp2_with (fail)
      refine (doorkeeperlaw23_awake.calls true _ rfl (HL.out.below HB1.out)).mono ?_
      rintro e W2 ⟨rfl, hb⟩
      have HB2 := Aside0.mk (below_step HB1.out hb)
      clear hb
      go_wp2
      go_ret
      exact ⟨rfl, HB2.out⟩
    · have d1 : decide ((60 : Int) < (s.size : Int)) = false := decide_eq_false e1
      clear e1
      by_cases e2 : (60 : Int) < (a.size : Int)
      · have d2 : decide ((60 : Int) < (a.size : Int)) = true := decide_eq_true e2
        clear e2
        go_wp2_with (fail)
        refine (doorkeeperlaw23_awake.calls true _ rfl (HL.out.below HB1.out)).mono ?_
        rintro e W2 ⟨rfl, hb⟩
        have HB2 := Aside0.mk (below_step HB1.out hb)
        clear hb
        go_wp2
        go_ret
        exact ⟨rfl, HB2.out⟩
      · have d2 : decide ((60 : Int) < (a.size : Int)) = false := decide_eq_false e2
        clear e2
        by_cases e3 : (60 : Int) < (b.size : Int)
        · have d3 : decide ((60 : Int) < (b.size : Int)) = true := decide_eq_true e3
          clear e3
          go_wp2_with (fail)
          refine (doorkeeperlaw23_awake.calls true _ rfl (HL.out.below HB1.out)).mono ?_
          rintro e W2 ⟨rfl, hb⟩
          have HB2 := Aside0.mk (below_step HB1.out hb)
          clear hb
          go_wp2
          go_ret
          exact ⟨rfl, HB2.out⟩
        · have d3 : decide ((60 : Int) < (b.size : Int)) = false := decide_eq_false e3
          clear e3
          rcases dm_cases l hd rl s a b with ⟨i, j, hi, hj, ha, hb⟩ | ⟨ha, hb, he, hh⟩ | ⟨ha, hb⟩
          · have HA := Aside0.mk ha
            have HBB := Aside0.mk hb
            clear ha hb
            generalize hLL : meths l s = LL at HA HBB
            clear hLL
            rcases hi with rfl | rfl
            · rcases hj with rfl | rfl
              · go_wp2_with (fail)
                refine (decide_By.calls 4 A0 c0 l0 A1 c1 l hd rl s a 1 LL ⟨#[]⟩ _ K01.out HC0.out K11.out HC1.out ((aBy 0 _ _ _ _ _ _).trans (congrArg some HA.out)) (HL.out.1.below HB1.out)).mono ?_
                rintro e W2 ⟨v2, rfl, hr2, hb⟩
                obtain ⟨Z0, E0, rfl⟩ := Kd.R_slice hr2
                obtain ⟨_, hz, cz⟩ := Kd.R_reads' hr2
                have BR2 := Aside0.mk (blk_below BR1.out hb)
                have K02 := Aside0.mk (Kd.C_below K01.out hb)
                have K12 := Aside0.mk (Kd.C_below K11.out hb)
                have HB2 := Aside0.mk (below_step HB1.out hb)
                have ha2 := below_alloc (Below.refl W2.heap.size W2) (.cells #[.int .i64 1, .slice Z0 LL.length E0, .string ⟨#[]⟩] 44)
                have BX := Aside0.mk (blk_new W2 (.cells #[.int .i64 1, .slice Z0 LL.length E0, .string ⟨#[]⟩] 44))
                have BR2a := Aside0.mk (blk_below BR2.out ha2)
                have K02a := Aside0.mk (Kd.C_below K02.out ha2)
                have K12a := Aside0.mk (Kd.C_below K12.out ha2)
                have CZ2 := Aside0.mk (Kd.C_below cz ha2)
                have HZ := Aside0.mk hz
                have HB2a := Aside0.mk (below_step HB2.out ha2)
                clear hb hr2 cz hz ha2 BR2 K02 K12 HB2 BR1 K01 K11 HB1 q0 q1 q2 q3
                have q0 : (W2.alloc (.cells #[.int .i64 1, .slice Z0 LL.length E0, .string ⟨#[]⟩] 44)).cell? ⟨w.heap.size, 0, none⟩ = some (.slice A0 l0.length c0) := (blk_cell BR2a.out 0).trans rfl
                have q1 : (W2.alloc (.cells #[.int .i64 1, .slice Z0 LL.length E0, .string ⟨#[]⟩] 44)).cell? ⟨w.heap.size, 1, none⟩ = some (.slice A1 l.length c1) := (blk_cell BR2a.out 1).trans rfl
                have q2 : (W2.alloc (.cells #[.int .i64 1, .slice Z0 LL.length E0, .string ⟨#[]⟩] 44)).cell? ⟨w.heap.size, 2, none⟩ = some (.bool hd) := (blk_cell BR2a.out 2).trans rfl
                have q3 : (W2.alloc (.cells #[.int .i64 1, .slice Z0 LL.length E0, .string ⟨#[]⟩] 44)).cell? ⟨w.heap.size, 3, none⟩ = some (.string rl) := (blk_cell BR2a.out 3).trans rfl
                go_wp2_with (fail)
                clear q0 q1 q2 q3
                refine (decide_By.calls 4 A0 c0 l0 A1 c1 l hd rl s b 1 LL ⟨#[]⟩ _ K02a.out HC0.out K12a.out HC1.out ((aBy 0 _ _ _ _ _ _).trans (congrArg some HBB.out)) (HL.out.1.below HB2a.out)).mono ?_
                rintro e W3 ⟨v3, rfl, hr3, hb⟩
                obtain ⟨Y0, D0, rfl⟩ := Kd.R_slice hr3
                obtain ⟨_, hz, cz⟩ := Kd.R_reads' hr3
                have hb3 := below_alloc (Below.refl W3.heap.size W3) (.cells #[.int .i64 1, .slice Y0 LL.length D0, .string ⟨#[]⟩] 44)
                have BX3 := Aside0.mk (blk_below (blk_below BX.out hb) hb3)
                have BR3 := Aside0.mk (blk_below (blk_below BR2a.out hb) hb3)
                have CZ3 := Aside0.mk (Kd.C_below (Kd.C_below CZ2.out hb) hb3)
                have CY3 := Aside0.mk (Kd.C_below cz hb3)
                have HY := Aside0.mk hz
                have BY3 := Aside0.mk (blk_new W3 (.cells #[.int .i64 1, .slice Y0 LL.length D0, .string ⟨#[]⟩] 44))
                have HB3 := Aside0.mk (below_step (below_step HB2a.out hb) hb3)
                clear hb hr3 cz hz hb3 BX BR2a K02a K12a CZ2 HB2a
                have x0 : (W3.alloc (.cells #[.int .i64 1, .slice Y0 LL.length D0, .string ⟨#[]⟩] 44)).cell? ⟨W2.heap.size, 0, none⟩ = some (.int .i64 1) := (blk_cell BX3.out 0).trans rfl
                have x1 : (W3.alloc (.cells #[.int .i64 1, .slice Y0 LL.length D0, .string ⟨#[]⟩] 44)).cell? ⟨W2.heap.size, 1, none⟩ = some (.slice Z0 LL.length E0) := (blk_cell BX3.out 1).trans rfl
                have y0 : (W3.alloc (.cells #[.int .i64 1, .slice Y0 LL.length D0, .string ⟨#[]⟩] 44)).cell? ⟨W3.heap.size, 0, none⟩ = some (.int .i64 1) := (blk_cell BY3.out 0).trans rfl
                have y1 : (W3.alloc (.cells #[.int .i64 1, .slice Y0 LL.length D0, .string ⟨#[]⟩] 44)).cell? ⟨W3.heap.size, 1, none⟩ = some (.slice Y0 LL.length D0) := (blk_cell BY3.out 1).trans rfl
                have r2 : (W3.alloc (.cells #[.int .i64 1, .slice Y0 LL.length D0, .string ⟨#[]⟩] 44)).cell? ⟨w.heap.size, 2, none⟩ = some (.bool hd) := (blk_cell BR3.out 2).trans rfl
                go_wp2_with (fail)
                clear x1 y0 y1 r2
                refine (texts_n Z0 E0 _ LL Y0 D0 _ LL _ CZ3.out HZ.out CY3.out HY.out).mono ?_
                rw [decide_eq_true rfl]
                rintro e W4 ⟨rfl, nd, hW4⟩
                have hb4 : Below (W3.alloc (.cells #[.int .i64 1, .slice Y0 LL.length D0, .string ⟨#[]⟩] 44)).heap.size (W3.alloc (.cells #[.int .i64 1, .slice Y0 LL.length D0, .string ⟨#[]⟩] 44)) W4 := by rw [← hW4]; exact pw_below_drewN (Below.refl _ _) nd
                have BX4 := Aside0.mk (blk_below BX3.out hb4)
                have BY4 := Aside0.mk (blk_below BY3.out hb4)
                have BR4 := Aside0.mk (blk_below BR3.out hb4)
                have HB4 := Aside0.mk (below_step HB3.out hb4)
                clear x0 hW4 hb4
                have x0 : W4.cell? ⟨W2.heap.size, 0, none⟩ = some (.int .i64 1) := (blk_cell BX4.out 0).trans rfl
                have y0 : W4.cell? ⟨W3.heap.size, 0, none⟩ = some (.int .i64 1) := (blk_cell BY4.out 0).trans rfl
                have r2 : W4.cell? ⟨w.heap.size, 2, none⟩ = some (.bool hd) := (blk_cell BR4.out 2).trans rfl
                go_wp2
                go_ret
                exact ⟨by simp, HB4.out⟩
              · go_wp2_with (fail)
                refine (decide_By.calls 4 A0 c0 l0 A1 c1 l hd rl s a 1 LL ⟨#[]⟩ _ K01.out HC0.out K11.out HC1.out ((aBy 0 _ _ _ _ _ _).trans (congrArg some HA.out)) (HL.out.1.below HB1.out)).mono ?_
                rintro e W2 ⟨v2, rfl, hr2, hb⟩
                obtain ⟨Z0, E0, rfl⟩ := Kd.R_slice hr2
                obtain ⟨_, hz, cz⟩ := Kd.R_reads' hr2
                have BR2 := Aside0.mk (blk_below BR1.out hb)
                have K02 := Aside0.mk (Kd.C_below K01.out hb)
                have K12 := Aside0.mk (Kd.C_below K11.out hb)
                have HB2 := Aside0.mk (below_step HB1.out hb)
                have ha2 := below_alloc (Below.refl W2.heap.size W2) (.cells #[.int .i64 1, .slice Z0 LL.length E0, .string ⟨#[]⟩] 44)
                have BX := Aside0.mk (blk_new W2 (.cells #[.int .i64 1, .slice Z0 LL.length E0, .string ⟨#[]⟩] 44))
                have BR2a := Aside0.mk (blk_below BR2.out ha2)
                have K02a := Aside0.mk (Kd.C_below K02.out ha2)
                have K12a := Aside0.mk (Kd.C_below K12.out ha2)
                have CZ2 := Aside0.mk (Kd.C_below cz ha2)
                have HZ := Aside0.mk hz
                have HB2a := Aside0.mk (below_step HB2.out ha2)
                clear hb hr2 cz hz ha2 BR2 K02 K12 HB2 BR1 K01 K11 HB1 q0 q1 q2 q3
                have q0 : (W2.alloc (.cells #[.int .i64 1, .slice Z0 LL.length E0, .string ⟨#[]⟩] 44)).cell? ⟨w.heap.size, 0, none⟩ = some (.slice A0 l0.length c0) := (blk_cell BR2a.out 0).trans rfl
                have q1 : (W2.alloc (.cells #[.int .i64 1, .slice Z0 LL.length E0, .string ⟨#[]⟩] 44)).cell? ⟨w.heap.size, 1, none⟩ = some (.slice A1 l.length c1) := (blk_cell BR2a.out 1).trans rfl
                have q2 : (W2.alloc (.cells #[.int .i64 1, .slice Z0 LL.length E0, .string ⟨#[]⟩] 44)).cell? ⟨w.heap.size, 2, none⟩ = some (.bool hd) := (blk_cell BR2a.out 2).trans rfl
                have q3 : (W2.alloc (.cells #[.int .i64 1, .slice Z0 LL.length E0, .string ⟨#[]⟩] 44)).cell? ⟨w.heap.size, 3, none⟩ = some (.string rl) := (blk_cell BR2a.out 3).trans rfl
                go_wp2_with (fail)
                clear q0 q1 q2 q3
                refine (decide_By.calls 4 A0 c0 l0 A1 c1 l hd rl s b 4 LL ⟨#[]⟩ _ K02a.out HC0.out K12a.out HC1.out ((aBy 0 _ _ _ _ _ _).trans (congrArg some HBB.out)) (HL.out.1.below HB2a.out)).mono ?_
                rintro e W3 ⟨v3, rfl, hr3, hb⟩
                obtain ⟨Y0, D0, rfl⟩ := Kd.R_slice hr3
                obtain ⟨_, hz, cz⟩ := Kd.R_reads' hr3
                have hb3 := below_alloc (Below.refl W3.heap.size W3) (.cells #[.int .i64 4, .slice Y0 LL.length D0, .string ⟨#[]⟩] 44)
                have BX3 := Aside0.mk (blk_below (blk_below BX.out hb) hb3)
                have BR3 := Aside0.mk (blk_below (blk_below BR2a.out hb) hb3)
                have CZ3 := Aside0.mk (Kd.C_below (Kd.C_below CZ2.out hb) hb3)
                have CY3 := Aside0.mk (Kd.C_below cz hb3)
                have HY := Aside0.mk hz
                have BY3 := Aside0.mk (blk_new W3 (.cells #[.int .i64 4, .slice Y0 LL.length D0, .string ⟨#[]⟩] 44))
                have HB3 := Aside0.mk (below_step (below_step HB2a.out hb) hb3)
                clear hb hr3 cz hz hb3 BX BR2a K02a K12a CZ2 HB2a
                have x0 : (W3.alloc (.cells #[.int .i64 4, .slice Y0 LL.length D0, .string ⟨#[]⟩] 44)).cell? ⟨W2.heap.size, 0, none⟩ = some (.int .i64 1) := (blk_cell BX3.out 0).trans rfl
                have x1 : (W3.alloc (.cells #[.int .i64 4, .slice Y0 LL.length D0, .string ⟨#[]⟩] 44)).cell? ⟨W2.heap.size, 1, none⟩ = some (.slice Z0 LL.length E0) := (blk_cell BX3.out 1).trans rfl
                have y0 : (W3.alloc (.cells #[.int .i64 4, .slice Y0 LL.length D0, .string ⟨#[]⟩] 44)).cell? ⟨W3.heap.size, 0, none⟩ = some (.int .i64 4) := (blk_cell BY3.out 0).trans rfl
                have y1 : (W3.alloc (.cells #[.int .i64 4, .slice Y0 LL.length D0, .string ⟨#[]⟩] 44)).cell? ⟨W3.heap.size, 1, none⟩ = some (.slice Y0 LL.length D0) := (blk_cell BY3.out 1).trans rfl
                have r2 : (W3.alloc (.cells #[.int .i64 4, .slice Y0 LL.length D0, .string ⟨#[]⟩] 44)).cell? ⟨w.heap.size, 2, none⟩ = some (.bool hd) := (blk_cell BR3.out 2).trans rfl
                go_wp2_with (fail)
                clear x1 y0 y1 r2
                refine (texts_n Z0 E0 _ LL Y0 D0 _ LL _ CZ3.out HZ.out CY3.out HY.out).mono ?_
                rw [decide_eq_true rfl]
                rintro e W4 ⟨rfl, nd, hW4⟩
                have hb4 : Below (W3.alloc (.cells #[.int .i64 4, .slice Y0 LL.length D0, .string ⟨#[]⟩] 44)).heap.size (W3.alloc (.cells #[.int .i64 4, .slice Y0 LL.length D0, .string ⟨#[]⟩] 44)) W4 := by rw [← hW4]; exact pw_below_drewN (Below.refl _ _) nd
                have BX4 := Aside0.mk (blk_below BX3.out hb4)
                have BY4 := Aside0.mk (blk_below BY3.out hb4)
                have BR4 := Aside0.mk (blk_below BR3.out hb4)
                have HB4 := Aside0.mk (below_step HB3.out hb4)
                clear x0 hW4 hb4
                have x0 : W4.cell? ⟨W2.heap.size, 0, none⟩ = some (.int .i64 1) := (blk_cell BX4.out 0).trans rfl
                have y0 : W4.cell? ⟨W3.heap.size, 0, none⟩ = some (.int .i64 4) := (blk_cell BY4.out 0).trans rfl
                have r2 : W4.cell? ⟨w.heap.size, 2, none⟩ = some (.bool hd) := (blk_cell BR4.out 2).trans rfl
                go_wp2
                go_ret
                exact ⟨by simp, HB4.out⟩
            · rcases hj with rfl | rfl
              · go_wp2_with (fail)
                refine (decide_By.calls 4 A0 c0 l0 A1 c1 l hd rl s a 4 LL ⟨#[]⟩ _ K01.out HC0.out K11.out HC1.out ((aBy 0 _ _ _ _ _ _).trans (congrArg some HA.out)) (HL.out.1.below HB1.out)).mono ?_
                rintro e W2 ⟨v2, rfl, hr2, hb⟩
                obtain ⟨Z0, E0, rfl⟩ := Kd.R_slice hr2
                obtain ⟨_, hz, cz⟩ := Kd.R_reads' hr2
                have BR2 := Aside0.mk (blk_below BR1.out hb)
                have K02 := Aside0.mk (Kd.C_below K01.out hb)
                have K12 := Aside0.mk (Kd.C_below K11.out hb)
                have HB2 := Aside0.mk (below_step HB1.out hb)
                have ha2 := below_alloc (Below.refl W2.heap.size W2) (.cells #[.int .i64 4, .slice Z0 LL.length E0, .string ⟨#[]⟩] 44)
                have BX := Aside0.mk (blk_new W2 (.cells #[.int .i64 4, .slice Z0 LL.length E0, .string ⟨#[]⟩] 44))
                have BR2a := Aside0.mk (blk_below BR2.out ha2)
                have K02a := Aside0.mk (Kd.C_below K02.out ha2)
                have K12a := Aside0.mk (Kd.C_below K12.out ha2)
                have CZ2 := Aside0.mk (Kd.C_below cz ha2)
                have HZ := Aside0.mk hz
                have HB2a := Aside0.mk (below_step HB2.out ha2)
                clear hb hr2 cz hz ha2 BR2 K02 K12 HB2 BR1 K01 K11 HB1 q0 q1 q2 q3
                have q0 : (W2.alloc (.cells #[.int .i64 4, .slice Z0 LL.length E0, .string ⟨#[]⟩] 44)).cell? ⟨w.heap.size, 0, none⟩ = some (.slice A0 l0.length c0) := (blk_cell BR2a.out 0).trans rfl
                have q1 : (W2.alloc (.cells #[.int .i64 4, .slice Z0 LL.length E0, .string ⟨#[]⟩] 44)).cell? ⟨w.heap.size, 1, none⟩ = some (.slice A1 l.length c1) := (blk_cell BR2a.out 1).trans rfl
                have q2 : (W2.alloc (.cells #[.int .i64 4, .slice Z0 LL.length E0, .string ⟨#[]⟩] 44)).cell? ⟨w.heap.size, 2, none⟩ = some (.bool hd) := (blk_cell BR2a.out 2).trans rfl
                have q3 : (W2.alloc (.cells #[.int .i64 4, .slice Z0 LL.length E0, .string ⟨#[]⟩] 44)).cell? ⟨w.heap.size, 3, none⟩ = some (.string rl) := (blk_cell BR2a.out 3).trans rfl
                go_wp2_with (fail)
                clear q0 q1 q2 q3
                refine (decide_By.calls 4 A0 c0 l0 A1 c1 l hd rl s b 1 LL ⟨#[]⟩ _ K02a.out HC0.out K12a.out HC1.out ((aBy 0 _ _ _ _ _ _).trans (congrArg some HBB.out)) (HL.out.1.below HB2a.out)).mono ?_
                rintro e W3 ⟨v3, rfl, hr3, hb⟩
                obtain ⟨Y0, D0, rfl⟩ := Kd.R_slice hr3
                obtain ⟨_, hz, cz⟩ := Kd.R_reads' hr3
                have hb3 := below_alloc (Below.refl W3.heap.size W3) (.cells #[.int .i64 1, .slice Y0 LL.length D0, .string ⟨#[]⟩] 44)
                have BX3 := Aside0.mk (blk_below (blk_below BX.out hb) hb3)
                have BR3 := Aside0.mk (blk_below (blk_below BR2a.out hb) hb3)
                have CZ3 := Aside0.mk (Kd.C_below (Kd.C_below CZ2.out hb) hb3)
                have CY3 := Aside0.mk (Kd.C_below cz hb3)
                have HY := Aside0.mk hz
                have BY3 := Aside0.mk (blk_new W3 (.cells #[.int .i64 1, .slice Y0 LL.length D0, .string ⟨#[]⟩] 44))
                have HB3 := Aside0.mk (below_step (below_step HB2a.out hb) hb3)
                clear hb hr3 cz hz hb3 BX BR2a K02a K12a CZ2 HB2a
                have x0 : (W3.alloc (.cells #[.int .i64 1, .slice Y0 LL.length D0, .string ⟨#[]⟩] 44)).cell? ⟨W2.heap.size, 0, none⟩ = some (.int .i64 4) := (blk_cell BX3.out 0).trans rfl
                have x1 : (W3.alloc (.cells #[.int .i64 1, .slice Y0 LL.length D0, .string ⟨#[]⟩] 44)).cell? ⟨W2.heap.size, 1, none⟩ = some (.slice Z0 LL.length E0) := (blk_cell BX3.out 1).trans rfl
                have y0 : (W3.alloc (.cells #[.int .i64 1, .slice Y0 LL.length D0, .string ⟨#[]⟩] 44)).cell? ⟨W3.heap.size, 0, none⟩ = some (.int .i64 1) := (blk_cell BY3.out 0).trans rfl
                have y1 : (W3.alloc (.cells #[.int .i64 1, .slice Y0 LL.length D0, .string ⟨#[]⟩] 44)).cell? ⟨W3.heap.size, 1, none⟩ = some (.slice Y0 LL.length D0) := (blk_cell BY3.out 1).trans rfl
                have r2 : (W3.alloc (.cells #[.int .i64 1, .slice Y0 LL.length D0, .string ⟨#[]⟩] 44)).cell? ⟨w.heap.size, 2, none⟩ = some (.bool hd) := (blk_cell BR3.out 2).trans rfl
                go_wp2_with (fail)
                clear x1 y0 y1 r2
                refine (texts_n Z0 E0 _ LL Y0 D0 _ LL _ CZ3.out HZ.out CY3.out HY.out).mono ?_
                rw [decide_eq_true rfl]
                rintro e W4 ⟨rfl, nd, hW4⟩
                have hb4 : Below (W3.alloc (.cells #[.int .i64 1, .slice Y0 LL.length D0, .string ⟨#[]⟩] 44)).heap.size (W3.alloc (.cells #[.int .i64 1, .slice Y0 LL.length D0, .string ⟨#[]⟩] 44)) W4 := by rw [← hW4]; exact pw_below_drewN (Below.refl _ _) nd
                have BX4 := Aside0.mk (blk_below BX3.out hb4)
                have BY4 := Aside0.mk (blk_below BY3.out hb4)
                have BR4 := Aside0.mk (blk_below BR3.out hb4)
                have HB4 := Aside0.mk (below_step HB3.out hb4)
                clear x0 hW4 hb4
                have x0 : W4.cell? ⟨W2.heap.size, 0, none⟩ = some (.int .i64 4) := (blk_cell BX4.out 0).trans rfl
                have y0 : W4.cell? ⟨W3.heap.size, 0, none⟩ = some (.int .i64 1) := (blk_cell BY4.out 0).trans rfl
                have r2 : W4.cell? ⟨w.heap.size, 2, none⟩ = some (.bool hd) := (blk_cell BR4.out 2).trans rfl
                go_wp2
                go_ret
                exact ⟨by simp, HB4.out⟩
              · go_wp2_with (fail)
                refine (decide_By.calls 4 A0 c0 l0 A1 c1 l hd rl s a 4 LL ⟨#[]⟩ _ K01.out HC0.out K11.out HC1.out ((aBy 0 _ _ _ _ _ _).trans (congrArg some HA.out)) (HL.out.1.below HB1.out)).mono ?_
                rintro e W2 ⟨v2, rfl, hr2, hb⟩
                obtain ⟨Z0, E0, rfl⟩ := Kd.R_slice hr2
                obtain ⟨_, hz, cz⟩ := Kd.R_reads' hr2
                have BR2 := Aside0.mk (blk_below BR1.out hb)
                have K02 := Aside0.mk (Kd.C_below K01.out hb)
                have K12 := Aside0.mk (Kd.C_below K11.out hb)
                have HB2 := Aside0.mk (below_step HB1.out hb)
                have ha2 := below_alloc (Below.refl W2.heap.size W2) (.cells #[.int .i64 4, .slice Z0 LL.length E0, .string ⟨#[]⟩] 44)
                have BX := Aside0.mk (blk_new W2 (.cells #[.int .i64 4, .slice Z0 LL.length E0, .string ⟨#[]⟩] 44))
                have BR2a := Aside0.mk (blk_below BR2.out ha2)
                have K02a := Aside0.mk (Kd.C_below K02.out ha2)
                have K12a := Aside0.mk (Kd.C_below K12.out ha2)
                have CZ2 := Aside0.mk (Kd.C_below cz ha2)
                have HZ := Aside0.mk hz
                have HB2a := Aside0.mk (below_step HB2.out ha2)
                clear hb hr2 cz hz ha2 BR2 K02 K12 HB2 BR1 K01 K11 HB1 q0 q1 q2 q3
                have q0 : (W2.alloc (.cells #[.int .i64 4, .slice Z0 LL.length E0, .string ⟨#[]⟩] 44)).cell? ⟨w.heap.size, 0, none⟩ = some (.slice A0 l0.length c0) := (blk_cell BR2a.out 0).trans rfl
                have q1 : (W2.alloc (.cells #[.int .i64 4, .slice Z0 LL.length E0, .string ⟨#[]⟩] 44)).cell? ⟨w.heap.size, 1, none⟩ = some (.slice A1 l.length c1) := (blk_cell BR2a.out 1).trans rfl
                have q2 : (W2.alloc (.cells #[.int .i64 4, .slice Z0 LL.length E0, .string ⟨#[]⟩] 44)).cell? ⟨w.heap.size, 2, none⟩ = some (.bool hd) := (blk_cell BR2a.out 2).trans rfl
                have q3 : (W2.alloc (.cells #[.int .i64 4, .slice Z0 LL.length E0, .string ⟨#[]⟩] 44)).cell? ⟨w.heap.size, 3, none⟩ = some (.string rl) := (blk_cell BR2a.out 3).trans rfl
                go_wp2_with (fail)
                clear q0 q1 q2 q3
                refine (decide_By.calls 4 A0 c0 l0 A1 c1 l hd rl s b 4 LL ⟨#[]⟩ _ K02a.out HC0.out K12a.out HC1.out ((aBy 0 _ _ _ _ _ _).trans (congrArg some HBB.out)) (HL.out.1.below HB2a.out)).mono ?_
                rintro e W3 ⟨v3, rfl, hr3, hb⟩
                obtain ⟨Y0, D0, rfl⟩ := Kd.R_slice hr3
                obtain ⟨_, hz, cz⟩ := Kd.R_reads' hr3
                have hb3 := below_alloc (Below.refl W3.heap.size W3) (.cells #[.int .i64 4, .slice Y0 LL.length D0, .string ⟨#[]⟩] 44)
                have BX3 := Aside0.mk (blk_below (blk_below BX.out hb) hb3)
                have BR3 := Aside0.mk (blk_below (blk_below BR2a.out hb) hb3)
                have CZ3 := Aside0.mk (Kd.C_below (Kd.C_below CZ2.out hb) hb3)
                have CY3 := Aside0.mk (Kd.C_below cz hb3)
                have HY := Aside0.mk hz
                have BY3 := Aside0.mk (blk_new W3 (.cells #[.int .i64 4, .slice Y0 LL.length D0, .string ⟨#[]⟩] 44))
                have HB3 := Aside0.mk (below_step (below_step HB2a.out hb) hb3)
                clear hb hr3 cz hz hb3 BX BR2a K02a K12a CZ2 HB2a
                have x0 : (W3.alloc (.cells #[.int .i64 4, .slice Y0 LL.length D0, .string ⟨#[]⟩] 44)).cell? ⟨W2.heap.size, 0, none⟩ = some (.int .i64 4) := (blk_cell BX3.out 0).trans rfl
                have x1 : (W3.alloc (.cells #[.int .i64 4, .slice Y0 LL.length D0, .string ⟨#[]⟩] 44)).cell? ⟨W2.heap.size, 1, none⟩ = some (.slice Z0 LL.length E0) := (blk_cell BX3.out 1).trans rfl
                have y0 : (W3.alloc (.cells #[.int .i64 4, .slice Y0 LL.length D0, .string ⟨#[]⟩] 44)).cell? ⟨W3.heap.size, 0, none⟩ = some (.int .i64 4) := (blk_cell BY3.out 0).trans rfl
                have y1 : (W3.alloc (.cells #[.int .i64 4, .slice Y0 LL.length D0, .string ⟨#[]⟩] 44)).cell? ⟨W3.heap.size, 1, none⟩ = some (.slice Y0 LL.length D0) := (blk_cell BY3.out 1).trans rfl
                have r2 : (W3.alloc (.cells #[.int .i64 4, .slice Y0 LL.length D0, .string ⟨#[]⟩] 44)).cell? ⟨w.heap.size, 2, none⟩ = some (.bool hd) := (blk_cell BR3.out 2).trans rfl
                go_wp2_with (fail)
                clear x1 y0 y1 r2
                refine (texts_n Z0 E0 _ LL Y0 D0 _ LL _ CZ3.out HZ.out CY3.out HY.out).mono ?_
                rw [decide_eq_true rfl]
                rintro e W4 ⟨rfl, nd, hW4⟩
                have hb4 : Below (W3.alloc (.cells #[.int .i64 4, .slice Y0 LL.length D0, .string ⟨#[]⟩] 44)).heap.size (W3.alloc (.cells #[.int .i64 4, .slice Y0 LL.length D0, .string ⟨#[]⟩] 44)) W4 := by rw [← hW4]; exact pw_below_drewN (Below.refl _ _) nd
                have BX4 := Aside0.mk (blk_below BX3.out hb4)
                have BY4 := Aside0.mk (blk_below BY3.out hb4)
                have BR4 := Aside0.mk (blk_below BR3.out hb4)
                have HB4 := Aside0.mk (below_step HB3.out hb4)
                clear x0 hW4 hb4
                have x0 : W4.cell? ⟨W2.heap.size, 0, none⟩ = some (.int .i64 4) := (blk_cell BX4.out 0).trans rfl
                have y0 : W4.cell? ⟨W3.heap.size, 0, none⟩ = some (.int .i64 4) := (blk_cell BY4.out 0).trans rfl
                have r2 : W4.cell? ⟨w.heap.size, 2, none⟩ = some (.bool hd) := (blk_cell BR4.out 2).trans rfl
                go_wp2
                go_ret
                exact ⟨by simp, HB4.out⟩
          · subst hh
            have HA := Aside0.mk ha
            have HBB := Aside0.mk hb
            have HE := Aside0.mk he
            clear ha hb he
            have hse : (s.toList == ([] : List UInt8)) = true := by rw [HE.out]; rfl
            have hse2 : s.toList.isEmpty = true := by rw [HE.out]; rfl
            go_wp2_with (fail)
            refine (decide_By.calls 4 A0 c0 l0 A1 c1 l false rl s a 2 [] rl _ K01.out HC0.out K11.out HC1.out ((aBy 0 _ _ _ _ _ _).trans (congrArg some HA.out)) (HL.out.1.below HB1.out)).mono ?_
            rintro e W2 ⟨v2, rfl, hr2, hb⟩
            obtain ⟨Z0, E0, rfl⟩ := Kd.R_slice hr2
            obtain ⟨_, hz, cz⟩ := Kd.R_reads' hr2
            have BR2 := Aside0.mk (blk_below BR1.out hb)
            have K02 := Aside0.mk (Kd.C_below K01.out hb)
            have K12 := Aside0.mk (Kd.C_below K11.out hb)
            have HB2 := Aside0.mk (below_step HB1.out hb)
            have ha2 := below_alloc (Below.refl W2.heap.size W2) (.cells #[.int .i64 2, .slice Z0 0 E0, .string rl] 44)
            have BX := Aside0.mk (blk_new W2 (.cells #[.int .i64 2, .slice Z0 0 E0, .string rl] 44))
            have BR2a := Aside0.mk (blk_below BR2.out ha2)
            have K02a := Aside0.mk (Kd.C_below K02.out ha2)
            have K12a := Aside0.mk (Kd.C_below K12.out ha2)
            have CZ2 := Aside0.mk (Kd.C_below cz ha2)
            have HZ := Aside0.mk hz
            have HB2a := Aside0.mk (below_step HB2.out ha2)
            clear hb hr2 cz hz ha2 BR2 K02 K12 HB2 BR1 K01 K11 HB1 q0 q1 q2 q3
            have q0 : (W2.alloc (.cells #[.int .i64 2, .slice Z0 0 E0, .string rl] 44)).cell? ⟨w.heap.size, 0, none⟩ = some (.slice A0 l0.length c0) := (blk_cell BR2a.out 0).trans rfl
            have q1 : (W2.alloc (.cells #[.int .i64 2, .slice Z0 0 E0, .string rl] 44)).cell? ⟨w.heap.size, 1, none⟩ = some (.slice A1 l.length c1) := (blk_cell BR2a.out 1).trans rfl
            have q2 : (W2.alloc (.cells #[.int .i64 2, .slice Z0 0 E0, .string rl] 44)).cell? ⟨w.heap.size, 2, none⟩ = some (.bool false) := (blk_cell BR2a.out 2).trans rfl
            have q3 : (W2.alloc (.cells #[.int .i64 2, .slice Z0 0 E0, .string rl] 44)).cell? ⟨w.heap.size, 3, none⟩ = some (.string rl) := (blk_cell BR2a.out 3).trans rfl
            go_wp2_with (fail)
            clear q0 q1 q2 q3
            refine (decide_By.calls 4 A0 c0 l0 A1 c1 l false rl s b 2 [] rl _ K02a.out HC0.out K12a.out HC1.out ((aBy 0 _ _ _ _ _ _).trans (congrArg some HBB.out)) (HL.out.1.below HB2a.out)).mono ?_
            rintro e W3 ⟨v3, rfl, hr3, hb⟩
            obtain ⟨Y0, D0, rfl⟩ := Kd.R_slice hr3
            obtain ⟨_, hz, cz⟩ := Kd.R_reads' hr3
            have hb3 := below_alloc (Below.refl W3.heap.size W3) (.cells #[.int .i64 2, .slice Y0 0 D0, .string rl] 44)
            have BX3 := Aside0.mk (blk_below (blk_below BX.out hb) hb3)
            have BR3 := Aside0.mk (blk_below (blk_below BR2a.out hb) hb3)
            have CZ3 := Aside0.mk (Kd.C_below (Kd.C_below CZ2.out hb) hb3)
            have CY3 := Aside0.mk (Kd.C_below cz hb3)
            have HY := Aside0.mk hz
            have BY3 := Aside0.mk (blk_new W3 (.cells #[.int .i64 2, .slice Y0 0 D0, .string rl] 44))
            have HB3 := Aside0.mk (below_step (below_step HB2a.out hb) hb3)
            clear hb hr3 cz hz hb3 BX BR2a K02a K12a CZ2 HB2a
            have x0 : (W3.alloc (.cells #[.int .i64 2, .slice Y0 0 D0, .string rl] 44)).cell? ⟨W2.heap.size, 0, none⟩ = some (.int .i64 2) := (blk_cell BX3.out 0).trans rfl
            have x1 : (W3.alloc (.cells #[.int .i64 2, .slice Y0 0 D0, .string rl] 44)).cell? ⟨W2.heap.size, 1, none⟩ = some (.slice Z0 0 E0) := (blk_cell BX3.out 1).trans rfl
            have y0 : (W3.alloc (.cells #[.int .i64 2, .slice Y0 0 D0, .string rl] 44)).cell? ⟨W3.heap.size, 0, none⟩ = some (.int .i64 2) := (blk_cell BY3.out 0).trans rfl
            have y1 : (W3.alloc (.cells #[.int .i64 2, .slice Y0 0 D0, .string rl] 44)).cell? ⟨W3.heap.size, 1, none⟩ = some (.slice Y0 0 D0) := (blk_cell BY3.out 1).trans rfl
            have r2 : (W3.alloc (.cells #[.int .i64 2, .slice Y0 0 D0, .string rl] 44)).cell? ⟨w.heap.size, 2, none⟩ = some (.bool false) := (blk_cell BR3.out 2).trans rfl
            go_wp2_with (fail)
            clear x1 y0 y1 r2
            refine (texts_n Z0 E0 _ [] Y0 D0 _ [] _ CZ3.out HZ.out CY3.out HY.out).mono ?_
            rw [decide_eq_true rfl]
            rintro e W4 ⟨rfl, nd, hW4⟩
            have hb4 : Below (W3.alloc (.cells #[.int .i64 2, .slice Y0 0 D0, .string rl] 44)).heap.size (W3.alloc (.cells #[.int .i64 2, .slice Y0 0 D0, .string rl] 44)) W4 := by rw [← hW4]; exact pw_below_drewN (Below.refl _ _) nd
            have BX4 := Aside0.mk (blk_below BX3.out hb4)
            have BY4 := Aside0.mk (blk_below BY3.out hb4)
            have BR4 := Aside0.mk (blk_below BR3.out hb4)
            have HB4 := Aside0.mk (below_step HB3.out hb4)
            clear x0 hW4 hb4
            have x0 : W4.cell? ⟨W2.heap.size, 0, none⟩ = some (.int .i64 2) := (blk_cell BX4.out 0).trans rfl
            have y0 : W4.cell? ⟨W3.heap.size, 0, none⟩ = some (.int .i64 2) := (blk_cell BY4.out 0).trans rfl
            have r2 : W4.cell? ⟨w.heap.size, 2, none⟩ = some (.bool false) := (blk_cell BR4.out 2).trans rfl
            go_wp2
            go_ret
            exact ⟨by simp, HB4.out⟩
          · have HA := Aside0.mk ha
            have HBB := Aside0.mk hb
            clear ha hb
            go_wp2_with (fail)
            refine (decide_By.calls 4 A0 c0 l0 A1 c1 l hd rl s a 3 [] ⟨#[]⟩ _ K01.out HC0.out K11.out HC1.out ((aBy 0 _ _ _ _ _ _).trans (congrArg some HA.out)) (HL.out.1.below HB1.out)).mono ?_
            rintro e W2 ⟨v2, rfl, hr2, hb⟩
            obtain ⟨Z0, E0, rfl⟩ := Kd.R_slice hr2
            obtain ⟨_, hz, cz⟩ := Kd.R_reads' hr2
            have BR2 := Aside0.mk (blk_below BR1.out hb)
            have K02 := Aside0.mk (Kd.C_below K01.out hb)
            have K12 := Aside0.mk (Kd.C_below K11.out hb)
            have HB2 := Aside0.mk (below_step HB1.out hb)
            have ha2 := below_alloc (Below.refl W2.heap.size W2) (.cells #[.int .i64 3, .slice Z0 0 E0, .string ⟨#[]⟩] 44)
            have BX := Aside0.mk (blk_new W2 (.cells #[.int .i64 3, .slice Z0 0 E0, .string ⟨#[]⟩] 44))
            have BR2a := Aside0.mk (blk_below BR2.out ha2)
            have K02a := Aside0.mk (Kd.C_below K02.out ha2)
            have K12a := Aside0.mk (Kd.C_below K12.out ha2)
            have CZ2 := Aside0.mk (Kd.C_below cz ha2)
            have HZ := Aside0.mk hz
            have HB2a := Aside0.mk (below_step HB2.out ha2)
            clear hb hr2 cz hz ha2 BR2 K02 K12 HB2 BR1 K01 K11 HB1 q0 q1 q2 q3
            have q0 : (W2.alloc (.cells #[.int .i64 3, .slice Z0 0 E0, .string ⟨#[]⟩] 44)).cell? ⟨w.heap.size, 0, none⟩ = some (.slice A0 l0.length c0) := (blk_cell BR2a.out 0).trans rfl
            have q1 : (W2.alloc (.cells #[.int .i64 3, .slice Z0 0 E0, .string ⟨#[]⟩] 44)).cell? ⟨w.heap.size, 1, none⟩ = some (.slice A1 l.length c1) := (blk_cell BR2a.out 1).trans rfl
            have q2 : (W2.alloc (.cells #[.int .i64 3, .slice Z0 0 E0, .string ⟨#[]⟩] 44)).cell? ⟨w.heap.size, 2, none⟩ = some (.bool hd) := (blk_cell BR2a.out 2).trans rfl
            have q3 : (W2.alloc (.cells #[.int .i64 3, .slice Z0 0 E0, .string ⟨#[]⟩] 44)).cell? ⟨w.heap.size, 3, none⟩ = some (.string rl) := (blk_cell BR2a.out 3).trans rfl
            go_wp2_with (fail)
            clear q0 q1 q2 q3
            refine (decide_By.calls 4 A0 c0 l0 A1 c1 l hd rl s b 3 [] ⟨#[]⟩ _ K02a.out HC0.out K12a.out HC1.out ((aBy 0 _ _ _ _ _ _).trans (congrArg some HBB.out)) (HL.out.1.below HB2a.out)).mono ?_
            rintro e W3 ⟨v3, rfl, hr3, hb⟩
            obtain ⟨Y0, D0, rfl⟩ := Kd.R_slice hr3
            obtain ⟨_, hz, cz⟩ := Kd.R_reads' hr3
            have hb3 := below_alloc (Below.refl W3.heap.size W3) (.cells #[.int .i64 3, .slice Y0 0 D0, .string ⟨#[]⟩] 44)
            have BX3 := Aside0.mk (blk_below (blk_below BX.out hb) hb3)
            have BR3 := Aside0.mk (blk_below (blk_below BR2a.out hb) hb3)
            have CZ3 := Aside0.mk (Kd.C_below (Kd.C_below CZ2.out hb) hb3)
            have CY3 := Aside0.mk (Kd.C_below cz hb3)
            have HY := Aside0.mk hz
            have BY3 := Aside0.mk (blk_new W3 (.cells #[.int .i64 3, .slice Y0 0 D0, .string ⟨#[]⟩] 44))
            have HB3 := Aside0.mk (below_step (below_step HB2a.out hb) hb3)
            clear hb hr3 cz hz hb3 BX BR2a K02a K12a CZ2 HB2a
            have x0 : (W3.alloc (.cells #[.int .i64 3, .slice Y0 0 D0, .string ⟨#[]⟩] 44)).cell? ⟨W2.heap.size, 0, none⟩ = some (.int .i64 3) := (blk_cell BX3.out 0).trans rfl
            have x1 : (W3.alloc (.cells #[.int .i64 3, .slice Y0 0 D0, .string ⟨#[]⟩] 44)).cell? ⟨W2.heap.size, 1, none⟩ = some (.slice Z0 0 E0) := (blk_cell BX3.out 1).trans rfl
            have y0 : (W3.alloc (.cells #[.int .i64 3, .slice Y0 0 D0, .string ⟨#[]⟩] 44)).cell? ⟨W3.heap.size, 0, none⟩ = some (.int .i64 3) := (blk_cell BY3.out 0).trans rfl
            have y1 : (W3.alloc (.cells #[.int .i64 3, .slice Y0 0 D0, .string ⟨#[]⟩] 44)).cell? ⟨W3.heap.size, 1, none⟩ = some (.slice Y0 0 D0) := (blk_cell BY3.out 1).trans rfl
            have r2 : (W3.alloc (.cells #[.int .i64 3, .slice Y0 0 D0, .string ⟨#[]⟩] 44)).cell? ⟨w.heap.size, 2, none⟩ = some (.bool hd) := (blk_cell BR3.out 2).trans rfl
            go_wp2_with (fail)
            clear x1 y0 y1 r2
            refine (texts_n Z0 E0 _ [] Y0 D0 _ [] _ CZ3.out HZ.out CY3.out HY.out).mono ?_
            rw [decide_eq_true rfl]
            rintro e W4 ⟨rfl, nd, hW4⟩
            have hb4 : Below (W3.alloc (.cells #[.int .i64 3, .slice Y0 0 D0, .string ⟨#[]⟩] 44)).heap.size (W3.alloc (.cells #[.int .i64 3, .slice Y0 0 D0, .string ⟨#[]⟩] 44)) W4 := by rw [← hW4]; exact pw_below_drewN (Below.refl _ _) nd
            have BX4 := Aside0.mk (blk_below BX3.out hb4)
            have BY4 := Aside0.mk (blk_below BY3.out hb4)
            have BR4 := Aside0.mk (blk_below BR3.out hb4)
            have HB4 := Aside0.mk (below_step HB3.out hb4)
            clear x0 hW4 hb4
            have x0 : W4.cell? ⟨W2.heap.size, 0, none⟩ = some (.int .i64 3) := (blk_cell BX4.out 0).trans rfl
            have y0 : W4.cell? ⟨W3.heap.size, 0, none⟩ = some (.int .i64 3) := (blk_cell BY4.out 0).trans rfl
            have r2 : W4.cell? ⟨w.heap.size, 2, none⟩ = some (.bool hd) := (blk_cell BR4.out 2).trans rfl
            go_wp2
            go_ret
            exact ⟨by simp, HB4.out⟩

end Go.Proofs.YtjapmlfjlojbeaaDoor.PA
