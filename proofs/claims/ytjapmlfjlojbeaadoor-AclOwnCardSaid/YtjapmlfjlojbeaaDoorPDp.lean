/- Contracts of doorkeeperlaw22_AclParents, as the kit's print.py wrote them over the translation. Conditions: those that each contract names. -/
import Derived.Test.YtjapmlfjlojbeaaDoorPA0
import Derived.Test.YtjapmlfjlojbeaaDoorHF
import Derived.Test.YtjapmlfjlojbeaaDoorHA
import Derived.Test.YtjapmlfjlojbeaaDoorPBa
import Derived.Test.YtjapmlfjlojbeaaDoorPBb
namespace Go.Proofs.YtjapmlfjlojbeaaDoor.PA
open Go.RowKit Go.Proofs.YtjapmlfjlojbeaaDoorW.PrintWords Go.Proofs.YtjapmlfjlojbeaaDoorW.PrintLast Go.Proofs.YtjapmlfjlojbeaaDoorW.PrintMore
attribute [local go_sem] max2_int min2_int max_two min_two max_three min_three max_four min_four   -- for this text's walks alone
set_option linter.unusedVariables false
set_option linter.unusedVariables false
set_option linter.unusedSimpArgs false

/-! ### doorkeeperlaw22_AclParents: function 7 -/
mutual
def doorkeeperlaw22_AclParents.j0 : Nat → List (S30) → List ByteArray → ByteArray → Bool → Option (Bool)
  | 0, _, _, _, _ => none
  | k + 1, x0, x1, x2, x25 => if x25 = true then ((doorkeeperlaw22_awake.f).bind fun t274 => (some t274)) else ((some (([] : List ByteArray) : List ByteArray)).bind fun y275 => (if y275.length + x1.length < 8796093022208 then ((some (y275 ++ x1 : List ByteArray)).bind fun y278 => (if y278.length < 8796093022208 then (doorkeeperlaw22_AclParents.l0 k x0 x1 (y278 ++ [x2]) 0) else (none))) else (none)))
def doorkeeperlaw22_AclParents.l0 : Nat → List (S30) → List ByteArray → List ByteArray → Int → Option (Bool)
  | 0, _, _, _, _ => none
  | k + 1, x0, x1, x7, x8 => if x8 < (x0.length : Int) then (if 0 ≤ x8 then (if (((rd_T30 x0 x8).f0).length : Int) = (x7.length : Int) then ((doorkeeperref09_Texts.f k ((rd_T30 x0 x8).f0) x7).bind fun t286 => (if t286 = true then (some true) else (doorkeeperlaw22_AclParents.l0 k x0 x1 x7 (wrap64 (x8 + 1))))) else (doorkeeperlaw22_AclParents.l0 k x0 x1 x7 (wrap64 (x8 + 1)))) else (none)) else ((acl_Match.f k x0 x7).bind fun bt287 => ((acl_Match.f k x0 x1).bind fun bt295 => ((doorkeeperref20_SameRule.f k bt287.1 bt287.2.1 bt287.2.2.1 bt287.2.2.2 bt295.1 bt295.2.1 bt295.2.2.1 bt295.2.2.2).bind fun t303 => (some t303))))
end
def doorkeeperlaw22_AclParents.f (k : Nat) (l0 : List (S30)) (l1 : List ByteArray) (a2 : ByteArray) : Option (Bool) := (doorkeeperlaw22_awake.f).bind fun t271 => (if t271 = true then ((doorkeeperref22_Few.f k l0).bind fun t272 => (if t272 = true then ((doorkeeperref16_Few.f k l1).bind fun t273 => (if t273 = true then (doorkeeperlaw22_AclParents.j0 k l0 l1 a2 (decide ((a2.size : Int) > 60))) else (doorkeeperlaw22_AclParents.j0 k l0 l1 a2 true))) else (doorkeeperlaw22_AclParents.j0 k l0 l1 a2 true))) else (doorkeeperlaw22_AclParents.j0 k l0 l1 a2 true))
theorem doorkeeperlaw22_AclParents.mono_l : ∀ k, (∀ y0 y1 y2 y3, LeO (doorkeeperlaw22_AclParents.j0 k y0 y1 y2 y3) (doorkeeperlaw22_AclParents.j0 (k + 1) y0 y1 y2 y3)) ∧ (∀ y0 y1 y2 y3, LeO (doorkeeperlaw22_AclParents.l0 k y0 y1 y2 y3) (doorkeeperlaw22_AclParents.l0 (k + 1) y0 y1 y2 y3))
  | 0 => ⟨fun _ _ _ _ r h => by simp [doorkeeperlaw22_AclParents.j0] at h, fun _ _ _ _ r h => by simp [doorkeeperlaw22_AclParents.l0] at h⟩
  | k + 1 => by
    obtain ⟨ih0, ih1⟩ := doorkeeperlaw22_AclParents.mono_l k
    refine ⟨?_, ?_⟩
    · intro y0 y1 y2 y3
      unfold doorkeeperlaw22_AclParents.j0
      repeat' first
      | (with_reducible exact ih0 _ _ _ _)
      | (with_reducible exact ih1 _ _ _ _)
      | (with_reducible exact acl_Match.mono _ _ _)
      | (with_reducible exact doorkeeperref09_Texts.mono _ _ _)
      | (with_reducible exact doorkeeperref16_Few.mono _ _)
      | (with_reducible exact doorkeeperref20_SameRule.mono _ _ _ _ _ _ _ _ _)
      | (with_reducible exact doorkeeperref22_Few.mono _ _)
      | (with_reducible exact LeO.refl _)
      | (with_reducible exact LeO.none _)
      | (with_reducible refine LeO.ite ?_ ?_)
      | (with_reducible refine LeO.bind ?_ (fun _ => ?_))
      | exact ih0 _ _ _ _
      | exact ih1 _ _ _ _
      | exact acl_Match.mono _ _ _
      | exact doorkeeperref09_Texts.mono _ _ _
      | exact doorkeeperref16_Few.mono _ _
      | exact doorkeeperref20_SameRule.mono _ _ _ _ _ _ _ _ _
      | exact doorkeeperref22_Few.mono _ _
      | exact LeO.none _
      | refine LeO.ite ?_ ?_
      | refine LeO.bind ?_ (fun _ => ?_)
    · intro y0 y1 y2 y3
      unfold doorkeeperlaw22_AclParents.l0
      repeat' first
      | (with_reducible exact ih0 _ _ _ _)
      | (with_reducible exact ih1 _ _ _ _)
      | (with_reducible exact acl_Match.mono _ _ _)
      | (with_reducible exact doorkeeperref09_Texts.mono _ _ _)
      | (with_reducible exact doorkeeperref16_Few.mono _ _)
      | (with_reducible exact doorkeeperref20_SameRule.mono _ _ _ _ _ _ _ _ _)
      | (with_reducible exact doorkeeperref22_Few.mono _ _)
      | (with_reducible exact LeO.refl _)
      | (with_reducible exact LeO.none _)
      | (with_reducible refine LeO.ite ?_ ?_)
      | (with_reducible refine LeO.bind ?_ (fun _ => ?_))
      | exact ih0 _ _ _ _
      | exact ih1 _ _ _ _
      | exact acl_Match.mono _ _ _
      | exact doorkeeperref09_Texts.mono _ _ _
      | exact doorkeeperref16_Few.mono _ _
      | exact doorkeeperref20_SameRule.mono _ _ _ _ _ _ _ _ _
      | exact doorkeeperref22_Few.mono _ _
      | exact LeO.none _
      | refine LeO.ite ?_ ?_
      | refine LeO.bind ?_ (fun _ => ?_)
theorem doorkeeperlaw22_AclParents.mono : ∀ a0 a1 a2 k, LeO (doorkeeperlaw22_AclParents.f k a0 a1 a2) (doorkeeperlaw22_AclParents.f (k + 1) a0 a1 a2) := by
  intro a0 a1 a2 k
  obtain ⟨ih0, ih1⟩ := doorkeeperlaw22_AclParents.mono_l k
  unfold doorkeeperlaw22_AclParents.f
  repeat' first
      | (with_reducible exact ih0 _ _ _ _)
      | (with_reducible exact ih1 _ _ _ _)
      | (with_reducible exact acl_Match.mono _ _ _)
      | (with_reducible exact doorkeeperref09_Texts.mono _ _ _)
      | (with_reducible exact doorkeeperref16_Few.mono _ _)
      | (with_reducible exact doorkeeperref20_SameRule.mono _ _ _ _ _ _ _ _ _)
      | (with_reducible exact doorkeeperref22_Few.mono _ _)
      | (with_reducible exact LeO.refl _)
      | (with_reducible exact LeO.none _)
      | (with_reducible refine LeO.ite ?_ ?_)
      | (with_reducible refine LeO.bind ?_ (fun _ => ?_))
      | exact ih0 _ _ _ _
      | exact ih1 _ _ _ _
      | exact acl_Match.mono _ _ _
      | exact doorkeeperref09_Texts.mono _ _ _
      | exact doorkeeperref16_Few.mono _ _
      | exact doorkeeperref20_SameRule.mono _ _ _ _ _ _ _ _ _
      | exact doorkeeperref22_Few.mono _ _
      | exact LeO.none _
      | refine LeO.ite ?_ ?_
      | refine LeO.bind ?_ (fun _ => ?_)
set_option maxHeartbeats 8000000 in
set_option maxRecDepth 100000 in
theorem doorkeeperlaw22_AclParents.calls (k : Nat) (A0 : Option Addr) (c0 : Nat) (l0 : List (S30)) (A1 : Option Addr) (c1 : Nat) (l1 : List ByteArray) (a2 : ByteArray) (r : Bool) (w : World) (hr0 : Kd.C k30 w A0 l0.length l0) (hc0 : l0.length ≤ c0) (hr1 : Kd.C Kd.string w A1 l1.length l1) (hc1 : l1.length ≤ c1) (h : doorkeeperlaw22_AclParents.f k l0 l1 a2 = some r) (hL : Laid w) :
    Calls Tryd.prog 7 #[.slice A0 l0.length c0, .slice A1 l1.length c1, .string a2] w fun e w' => e = .returned (.bool r) ∧ Below w.heap.size w w' := by
  have HL := Aside0.mk hL
  clear hL
  have HR0 := Aside0.mk hr0
  have HC0 := Aside0.mk hc0
  clear hr0 hc0
  have HR1 := Aside0.mk hr1
  have HC1 := Aside0.mk hc1
  clear hr1 hc1
  have HB := Aside0.mk (Below.refl w.heap.size w)
  have H : ((doorkeeperlaw22_awake.f).bind fun t271 => (if t271 = true then ((doorkeeperref22_Few.f k l0).bind fun t272 => (if t272 = true then ((doorkeeperref16_Few.f k l1).bind fun t273 => (if t273 = true then (doorkeeperlaw22_AclParents.j0 k l0 l1 a2 (decide ((a2.size : Int) > 60))) else (doorkeeperlaw22_AclParents.j0 k l0 l1 a2 true))) else (doorkeeperlaw22_AclParents.j0 k l0 l1 a2 true))) else (doorkeeperlaw22_AclParents.j0 k l0 l1 a2 true))) = some r := h
  clear h
  have HC4 := Aside0.mk H
  clear H
  go_enter Tryd.func7, Tryd.ntmps7
  go_upto_region 1 with (fail)
  go_cut [25] (fun v25 wc => ∃ (kq : Nat) (x25_3 : Bool), v25 = .bool x25_3 ∧ Aside0 (doorkeeperlaw22_AclParents.j0 kq l0 l1 a2 x25_3 = some r) ∧ Aside0 (kq ≤ k) ∧ Aside0 (Below w.heap.size w wc))
  case first =>
    have H := HC4.out
    clear HC4
    replace H := Option.bind_eq_some_iff.mp H
    obtain ⟨t271, A50, H⟩ := H
    replace H : (if t271 = true then ((doorkeeperref22_Few.f k l0).bind fun t272 => (if t272 = true then ((doorkeeperref16_Few.f k l1).bind fun t273 => (if t273 = true then (doorkeeperlaw22_AclParents.j0 k l0 l1 a2 (decide ((a2.size : Int) > 60))) else (doorkeeperlaw22_AclParents.j0 k l0 l1 a2 true))) else (doorkeeperlaw22_AclParents.j0 k l0 l1 a2 true))) else (doorkeeperlaw22_AclParents.j0 k l0 l1 a2 true)) = some r := H
    have A5 := Aside0.mk A50
    clear A50
    by_cases c6 : t271 = true
    · subst c6
      have H1 : ((doorkeeperref22_Few.f k l0).bind fun t272 => (if t272 = true then ((doorkeeperref16_Few.f k l1).bind fun t273 => (if t273 = true then (doorkeeperlaw22_AclParents.j0 k l0 l1 a2 (decide ((a2.size : Int) > 60))) else (doorkeeperlaw22_AclParents.j0 k l0 l1 a2 true))) else (doorkeeperlaw22_AclParents.j0 k l0 l1 a2 true))) = some r := by rw [if_pos rfl] at H; exact H
      clear H
      have H := H1
      clear H1
      replace H := Option.bind_eq_some_iff.mp H
      obtain ⟨t272, A70, H⟩ := H
      replace H : (if t272 = true then ((doorkeeperref16_Few.f k l1).bind fun t273 => (if t273 = true then (doorkeeperlaw22_AclParents.j0 k l0 l1 a2 (decide ((a2.size : Int) > 60))) else (doorkeeperlaw22_AclParents.j0 k l0 l1 a2 true))) else (doorkeeperlaw22_AclParents.j0 k l0 l1 a2 true)) = some r := H
      have A7 := Aside0.mk A70
      clear A70
      by_cases c8 : t272 = true
      · subst c8
        have H1 : ((doorkeeperref16_Few.f k l1).bind fun t273 => (if t273 = true then (doorkeeperlaw22_AclParents.j0 k l0 l1 a2 (decide ((a2.size : Int) > 60))) else (doorkeeperlaw22_AclParents.j0 k l0 l1 a2 true))) = some r := by rw [if_pos rfl] at H; exact H
        clear H
        have H := H1
        clear H1
        replace H := Option.bind_eq_some_iff.mp H
        obtain ⟨t273, A90, H⟩ := H
        replace H : (if t273 = true then (doorkeeperlaw22_AclParents.j0 k l0 l1 a2 (decide ((a2.size : Int) > 60))) else (doorkeeperlaw22_AclParents.j0 k l0 l1 a2 true)) = some r := H
        have A9 := Aside0.mk A90
        clear A90
        by_cases c10 : t273 = true
        · subst c10
          have H1 : (doorkeeperlaw22_AclParents.j0 k l0 l1 a2 (decide ((a2.size : Int) > 60))) = some r := by rw [if_pos rfl] at H; exact H
          clear H
          have H := H1
          clear H1
          have H' := Aside0.mk H
          clear H
          go_wp2_with (first | ((with_reducible refine gate_callee (f := 12) rfl ?_); refine goesL_ (some 9) rfl rfl Tryd.func12 (by kernel_rfl) rfl #[] rfl (by (try simp only [List.map_toArray, List.map_cons, List.map_nil]); first | done | rfl | (simp only [List.length_drop, List.length_take]; rfl)) ?_; (with_reducible refine (doorkeeperlaw22_awake.calls  true _ A5.out ?sideL).mono ?_); (case sideL => first | exact HL.out.below (by repeat (first | (with_reducible first | exact HB.out | apply below_alloc | apply pw_below_drewN | apply below_drew1) | exact HB.out)) | exact (HL.out.below (by repeat (first | (with_reducible first | exact HB.out | apply below_alloc | apply pw_below_drewN | apply below_drew1) | exact HB.out))).1 | exact (HL.out.below (by repeat (first | (with_reducible first | exact HB.out | apply below_alloc | apply pw_below_drewN | apply below_drew1) | exact HB.out))).2); rintro e w11 ⟨rfl, hb⟩; refine ⟨_, rfl, ?_⟩; have n0_ := Aside0.mk (below_step (by repeat (first | (with_reducible first | exact HB.out | apply below_alloc | apply pw_below_drewN | apply below_drew1) | exact HB.out)) hb); clear HB; have HB := n0_; clear n0_; (try clear hb); (try clear hb2); (try clear hk); (try clear hi)) | (go_at_call 13; (with_reducible refine (doorkeeperref22_Few.calls k _ _ l0 true _ ?side1 ?side2 A7.out).mono ?_); (case side1 => repeat (first | exact (Kd.C_below HR0.out HB.out) | (with_reducible refine Kd.C_alloc ?_ _) | (with_reducible refine Kd.C_drewN ?_ _) | (with_reducible refine Kd.C_drew ?_))); (case side2 => exact HC0.out); rintro e w' ⟨rfl, ⟨nd, rfl⟩⟩) | (go_at_call 14; (with_reducible refine (doorkeeperref16_Few.calls k _ _ l1 true _ ?side1 ?side2 A9.out).mono ?_); (case side1 => repeat (first | exact (Kd.C_below HR1.out (by repeat (first | (with_reducible first | exact HB.out | apply below_alloc | apply pw_below_drewN | apply below_drew1) | exact HB.out))) | (with_reducible refine Kd.C_alloc ?_ _) | (with_reducible refine Kd.C_drewN ?_ _) | (with_reducible refine Kd.C_drew ?_))); (case side2 => exact HC1.out); rintro e w' ⟨rfl, ⟨nd, rfl⟩⟩))
          go_meet
          case rel => exact ⟨_, (decide ((a2.size : Int) > 60)), (by first | rfl | (simp; done) | (simp [*]; done)), H', ⟨by first | omega | exact Nat.le_refl _⟩, ⟨by repeat (first | (with_reducible first | exact HB.out | apply below_alloc | apply pw_below_drewN | apply below_drew1) | exact HB.out)⟩⟩
        · replace c10 := Bool.eq_false_iff.mpr c10
          subst c10
          have H1 : (doorkeeperlaw22_AclParents.j0 k l0 l1 a2 true) = some r := by rw [if_neg (show ¬ (false = true) by decide)] at H; exact H
          clear H
          have H := H1
          clear H1
          have H' := Aside0.mk H
          clear H
          go_wp2_with (first | ((with_reducible refine gate_callee (f := 12) rfl ?_); refine goesL_ (some 9) rfl rfl Tryd.func12 (by kernel_rfl) rfl #[] rfl (by (try simp only [List.map_toArray, List.map_cons, List.map_nil]); first | done | rfl | (simp only [List.length_drop, List.length_take]; rfl)) ?_; (with_reducible refine (doorkeeperlaw22_awake.calls  true _ A5.out ?sideL).mono ?_); (case sideL => first | exact HL.out.below (by repeat (first | (with_reducible first | exact HB.out | apply below_alloc | apply pw_below_drewN | apply below_drew1) | exact HB.out)) | exact (HL.out.below (by repeat (first | (with_reducible first | exact HB.out | apply below_alloc | apply pw_below_drewN | apply below_drew1) | exact HB.out))).1 | exact (HL.out.below (by repeat (first | (with_reducible first | exact HB.out | apply below_alloc | apply pw_below_drewN | apply below_drew1) | exact HB.out))).2); rintro e w12 ⟨rfl, hb⟩; refine ⟨_, rfl, ?_⟩; have n0_ := Aside0.mk (below_step (by repeat (first | (with_reducible first | exact HB.out | apply below_alloc | apply pw_below_drewN | apply below_drew1) | exact HB.out)) hb); clear HB; have HB := n0_; clear n0_; (try clear hb); (try clear hb2); (try clear hk); (try clear hi)) | (go_at_call 13; (with_reducible refine (doorkeeperref22_Few.calls k _ _ l0 true _ ?side1 ?side2 A7.out).mono ?_); (case side1 => repeat (first | exact (Kd.C_below HR0.out HB.out) | (with_reducible refine Kd.C_alloc ?_ _) | (with_reducible refine Kd.C_drewN ?_ _) | (with_reducible refine Kd.C_drew ?_))); (case side2 => exact HC0.out); rintro e w' ⟨rfl, ⟨nd, rfl⟩⟩) | (go_at_call 14; (with_reducible refine (doorkeeperref16_Few.calls k _ _ l1 false _ ?side1 ?side2 A9.out).mono ?_); (case side1 => repeat (first | exact (Kd.C_below HR1.out (by repeat (first | (with_reducible first | exact HB.out | apply below_alloc | apply pw_below_drewN | apply below_drew1) | exact HB.out))) | (with_reducible refine Kd.C_alloc ?_ _) | (with_reducible refine Kd.C_drewN ?_ _) | (with_reducible refine Kd.C_drew ?_))); (case side2 => exact HC1.out); rintro e w' ⟨rfl, ⟨nd, rfl⟩⟩))
          go_meet
          case rel => exact ⟨_, (true), (by first | rfl | (simp; done) | (simp [*]; done)), H', ⟨by first | omega | exact Nat.le_refl _⟩, ⟨by repeat (first | (with_reducible first | exact HB.out | apply below_alloc | apply pw_below_drewN | apply below_drew1) | exact HB.out)⟩⟩
      · replace c8 := Bool.eq_false_iff.mpr c8
        subst c8
        have H1 : (doorkeeperlaw22_AclParents.j0 k l0 l1 a2 true) = some r := by rw [if_neg (show ¬ (false = true) by decide)] at H; exact H
        clear H
        have H := H1
        clear H1
        have H' := Aside0.mk H
        clear H
        go_wp2_with (first | ((with_reducible refine gate_callee (f := 12) rfl ?_); refine goesL_ (some 9) rfl rfl Tryd.func12 (by kernel_rfl) rfl #[] rfl (by (try simp only [List.map_toArray, List.map_cons, List.map_nil]); first | done | rfl | (simp only [List.length_drop, List.length_take]; rfl)) ?_; (with_reducible refine (doorkeeperlaw22_awake.calls  true _ A5.out ?sideL).mono ?_); (case sideL => first | exact HL.out.below (by repeat (first | (with_reducible first | exact HB.out | apply below_alloc | apply pw_below_drewN | apply below_drew1) | exact HB.out)) | exact (HL.out.below (by repeat (first | (with_reducible first | exact HB.out | apply below_alloc | apply pw_below_drewN | apply below_drew1) | exact HB.out))).1 | exact (HL.out.below (by repeat (first | (with_reducible first | exact HB.out | apply below_alloc | apply pw_below_drewN | apply below_drew1) | exact HB.out))).2); rintro e w13 ⟨rfl, hb⟩; refine ⟨_, rfl, ?_⟩; have n0_ := Aside0.mk (below_step (by repeat (first | (with_reducible first | exact HB.out | apply below_alloc | apply pw_below_drewN | apply below_drew1) | exact HB.out)) hb); clear HB; have HB := n0_; clear n0_; (try clear hb); (try clear hb2); (try clear hk); (try clear hi)) | (go_at_call 13; (with_reducible refine (doorkeeperref22_Few.calls k _ _ l0 false _ ?side1 ?side2 A7.out).mono ?_); (case side1 => repeat (first | exact (Kd.C_below HR0.out HB.out) | (with_reducible refine Kd.C_alloc ?_ _) | (with_reducible refine Kd.C_drewN ?_ _) | (with_reducible refine Kd.C_drew ?_))); (case side2 => exact HC0.out); rintro e w' ⟨rfl, ⟨nd, rfl⟩⟩))
        go_meet
        case rel => exact ⟨_, (true), (by first | rfl | (simp; done) | (simp [*]; done)), H', ⟨by first | omega | exact Nat.le_refl _⟩, ⟨by repeat (first | (with_reducible first | exact HB.out | apply below_alloc | apply pw_below_drewN | apply below_drew1) | exact HB.out)⟩⟩
    · replace c6 := Bool.eq_false_iff.mpr c6
      subst c6
      have H1 : (doorkeeperlaw22_AclParents.j0 k l0 l1 a2 true) = some r := by rw [if_neg (show ¬ (false = true) by decide)] at H; exact H
      clear H
      have H := H1
      clear H1
      have H' := Aside0.mk H
      clear H
      go_wp2_with (first | ((with_reducible refine gate_callee (f := 12) rfl ?_); refine goesL_ (some 9) rfl rfl Tryd.func12 (by kernel_rfl) rfl #[] rfl (by (try simp only [List.map_toArray, List.map_cons, List.map_nil]); first | done | rfl | (simp only [List.length_drop, List.length_take]; rfl)) ?_; (with_reducible refine (doorkeeperlaw22_awake.calls  false _ A5.out ?sideL).mono ?_); (case sideL => first | exact HL.out.below (by repeat (first | (with_reducible first | exact HB.out | apply below_alloc | apply pw_below_drewN | apply below_drew1) | exact HB.out)) | exact (HL.out.below (by repeat (first | (with_reducible first | exact HB.out | apply below_alloc | apply pw_below_drewN | apply below_drew1) | exact HB.out))).1 | exact (HL.out.below (by repeat (first | (with_reducible first | exact HB.out | apply below_alloc | apply pw_below_drewN | apply below_drew1) | exact HB.out))).2); rintro e w14 ⟨rfl, hb⟩; refine ⟨_, rfl, ?_⟩; have n0_ := Aside0.mk (below_step (by repeat (first | (with_reducible first | exact HB.out | apply below_alloc | apply pw_below_drewN | apply below_drew1) | exact HB.out)) hb); clear HB; have HB := n0_; clear n0_; (try clear hb); (try clear hb2); (try clear hk); (try clear hi)))
      go_meet
      case rel => exact ⟨_, (true), (by first | rfl | (simp; done) | (simp [*]; done)), H', ⟨by first | omega | exact Nat.le_refl _⟩, ⟨by repeat (first | (with_reducible first | exact HB.out | apply below_alloc | apply pw_below_drewN | apply below_drew1) | exact HB.out)⟩⟩
  case rest =>
    clear HC4
    try clear c1
    try clear p2
    try clear c6
    try clear c7
    try clear c8
    try clear c10
    try clear c12
    obtain ⟨kq, x25_3, rfl, HA, HJ3, HB⟩ := hcut
    cases kq with
    | zero => exact absurd HA.out (by simp [doorkeeperlaw22_AclParents.j0])
    | succ kj3 =>
      have H := HA.out
      clear HA
      simp only [doorkeeperlaw22_AclParents.j0] at H
      by_cases c15 : x25_3 = true
      · subst c15
        have H1 : ((doorkeeperlaw22_awake.f).bind fun t274 => (some t274)) = some r := by rw [if_pos rfl] at H; exact H
        clear H
        have H := H1
        clear H1
        replace H := Option.bind_eq_some_iff.mp H
        obtain ⟨t274, A160, H⟩ := H
        replace H : (some t274) = some r := H
        have A16 := Aside0.mk A160
        clear A160
        obtain rfl := Option.some.inj H
        go_wp2_with (first | ((with_reducible refine gate_callee (f := 12) rfl ?_); refine goesL_ (some 26) rfl rfl Tryd.func12 (by kernel_rfl) rfl #[] rfl (by (try simp only [List.map_toArray, List.map_cons, List.map_nil]); first | done | rfl | (simp only [List.length_drop, List.length_take]; rfl)) ?_; (with_reducible refine (doorkeeperlaw22_awake.calls  t274 _ A16.out ?sideL).mono ?_); (case sideL => first | exact HL.out.below (by repeat (first | (with_reducible first | exact HB.out | apply below_alloc | apply pw_below_drewN | apply below_drew1) | exact HB.out)) | exact (HL.out.below (by repeat (first | (with_reducible first | exact HB.out | apply below_alloc | apply pw_below_drewN | apply below_drew1) | exact HB.out))).1 | exact (HL.out.below (by repeat (first | (with_reducible first | exact HB.out | apply below_alloc | apply pw_below_drewN | apply below_drew1) | exact HB.out))).2); rintro e w17 ⟨rfl, hb⟩; refine ⟨_, rfl, ?_⟩; have n0_ := Aside0.mk (below_step (by repeat (first | (with_reducible first | exact HB.out | apply below_alloc | apply pw_below_drewN | apply below_drew1) | exact HB.out)) hb); clear HB; have HB := n0_; clear n0_; (try clear hb); (try clear hb2); (try clear hk); (try clear hi)))
        go_ret
        exact ⟨by first | rfl | (simp [errW_none, errW_some] <;> rfl) | (simp [*, errW_none, errW_some] <;> rfl), by repeat (first | (with_reducible first | exact HB.out | apply below_alloc | apply pw_below_drewN | apply below_drew1) | exact HB.out)⟩
      · replace c15 := Bool.eq_false_iff.mpr c15
        subst c15
        have H1 : ((some (([] : List ByteArray) : List ByteArray)).bind fun y275 => (if y275.length + l1.length < 8796093022208 then ((some (y275 ++ l1 : List ByteArray)).bind fun y278 => (if y278.length < 8796093022208 then (doorkeeperlaw22_AclParents.l0 kj3 l0 l1 (y278 ++ [a2]) 0) else (none))) else (none))) = some r := by rw [if_neg (show ¬ (false = true) by decide)] at H; exact H
        clear H
        have H := H1
        clear H1
        obtain ⟨y275, hy275⟩ : ∃ y_ : List ByteArray, y_ = (([] : List ByteArray)) := ⟨_, rfl⟩
        replace H : (if y275.length + l1.length < 8796093022208 then ((some (y275 ++ l1 : List ByteArray)).bind fun y278 => (if y278.length < 8796093022208 then (doorkeeperlaw22_AclParents.l0 kj3 l0 l1 (y278 ++ [a2]) 0) else (none))) else (none)) = some r := by first | (rw [hy275]; with_reducible exact H) | (have H2_ := (Option.bind_some _ _).symm.trans H; rw [hy275]; with_reducible exact H2_) | (have H2_ := (Option.bind_some _ _).symm.trans H; with_reducible exact H2_) | with_reducible exact H | (rw [hy275]; exact H) | exact H
        have Ny275 := Aside0.mk hy275
        clear hy275
        by_cases c18 : y275.length + l1.length < 8796093022208
        · rw [if_pos c18] at H
          have LMc18 := Aside0.mk c18
          clear c18
          obtain ⟨y278, hy278⟩ : ∃ y_ : List ByteArray, y_ = (y275 ++ l1) := ⟨_, rfl⟩
          replace H : (if y278.length < 8796093022208 then (doorkeeperlaw22_AclParents.l0 kj3 l0 l1 (y278 ++ [a2]) 0) else (none)) = some r := by first | (rw [hy278]; with_reducible exact H) | (have H2_ := (Option.bind_some _ _).symm.trans H; rw [hy278]; with_reducible exact H2_) | (have H2_ := (Option.bind_some _ _).symm.trans H; with_reducible exact H2_) | with_reducible exact H | (rw [hy278]; exact H) | exact H
          have Ny278 := Aside0.mk hy278
          clear hy278
          by_cases c19 : y278.length < 8796093022208
          · rw [if_pos c19] at H
            have LMc19 := Aside0.mk c19
            clear c19
            obtain ⟨y281, hy281⟩ : ∃ y_ : List ByteArray, y_ = (y278 ++ [a2]) := ⟨_, rfl⟩
            replace H : (doorkeeperlaw22_AclParents.l0 kj3 l0 l1 y281 0) = some r := by first | (rw [hy281]; with_reducible exact H) | (have H2_ := (Option.bind_some _ _).symm.trans H; rw [hy281]; with_reducible exact H2_) | (have H2_ := (Option.bind_some _ _).symm.trans H; with_reducible exact H2_) | with_reducible exact H | (rw [hy281]; exact H) | exact H
            have Ny281 := Aside0.mk hy281
            clear hy281
            have H' := Aside0.mk H
            clear H
            go_wp2_with (first | ((with_reducible refine gate_dst (N := 27) rfl ?_); (try (refine gate_guard (by rfl) ?_; dsimp only)); refine Kd.R_lit Kd.string _ 9 ?hg (N := 27) ?hd (xs := ([] : List ByteArray)) (inner := []) (ok := fun _ => True) (okp := fun _ => True) ?hr ?hp (fun _ hk => hk) trivial (Below.refl _ _) (Nat.le_refl _) (by simp) ?_; (case hd => rfl); (case hg => rfl); (case hr => first | (go_simp; done) | (go_simp; rfl)); (case hp => exact (Reps.none _ _)); intro v276 w20 ho21 hb hg_ hnew_; clear hg_ hnew_; (first | rw [← Ny275.out] at ho21 | (simp only [Int.reduceToNat] at ho21; rw [← Ny275.out] at ho21)); have n0_ := Aside0.mk (Kd.R_lower ho21 (below_size (by repeat (first | (with_reducible first | exact HB.out | apply below_alloc | apply pw_below_drewN | apply below_drew1) | exact HB.out)))); have n1_ := Aside0.mk (below_step (by repeat (first | (with_reducible first | exact HB.out | apply below_alloc | apply pw_below_drewN | apply below_drew1) | exact HB.out)) hb); clear HB; have HO277 := n0_; have HB := n1_; clear n0_ n1_; clear hb ho21) | ((with_reducible refine gate_builtin (b := .append) (xs := #[.tmp 27, .tmp 28]) rfl ?_); (try (refine gate_guard (by rfl) ?_; dsimp only)); at_builtin; refine Kd.R_append_rows Kd.string (w0 := w) w.heap.size rfl (.tmp 27) (.tmp 28) 23 9 (.string ⟨#[]⟩) 16 rfl Tryd.underlying23 info9 rfl (by decide) (by omega) v276 y275 l1 _ _ _ (fun _ => True) (fun _ => False) rfl rfl ?aO ?aR (fun _ _ h => h) (fun _ h => h.elim) ?aF ?aB ?aS ?aL ?_; (case aR => repeat (first | exact (Kd.C_below HR1.out HB.out) | (with_reducible refine Kd.C_alloc ?_ _) | (with_reducible refine Kd.C_drewN ?_ _) | (with_reducible refine Kd.C_drew ?_))); (case aB => exact (by repeat (first | (with_reducible first | exact HB.out | apply below_alloc | apply pw_below_drewN | apply below_drew1) | exact HB.out))); (case aF => exact (fun _ _ => trivial)); (case aO => exact (by (with_reducible repeat (first | apply Kd.R_alloc | apply Kd.R_drewN | apply Kd.R_drew)); exact HO277.out)); (case aS => exact (below_size (by repeat (first | (with_reducible first | exact HB.out | apply below_alloc | apply pw_below_drewN | apply below_drew1) | exact HB.out)))); (case aL => have := LMc18.out; omega); intro v279 w22 ho hb hg hat; rw [← Ny278.out] at ho; have n0_ := Aside0.mk (hb); have n1_ := Aside0.mk (ho); clear HB; clear HO277; have HB := n0_; have HO280 := n1_; clear n0_ n1_; clear ho hb hg hat) | ((with_reducible refine gate_builtin (b := .append) (xs := #[.tmp 29, .tmp 31]) rfl ?_); (try (refine gate_guard (by rfl) ?_; dsimp only)); at_builtin; refine Kd.R_append Kd.string (w0 := w) w.heap.size rfl (.tmp 29) (.tmp 31) 23 9 (.string ⟨#[]⟩) 16 rfl Tryd.underlying23 info9 rfl (by decide) (by omega) v279 y278 a2 [.string a2] (fun _ => True) (fun _ => False) rfl rfl ?aP (fun _ hk => hk.elim) ?aF ?aO ?aB ?aS ?aL ?_; (case aP => exact rfl); (case aB => exact (by repeat (first | (with_reducible first | exact HB.out | apply below_alloc | apply pw_below_drewN | apply below_drew1) | exact HB.out))); (case aF => exact (fun _ _ => trivial)); (case aO => exact (by (with_reducible repeat (first | apply Kd.R_alloc | apply Kd.R_drewN | apply Kd.R_drew)); exact HO280.out)); (case aS => exact (below_size (by repeat (first | (with_reducible first | exact HB.out | apply below_alloc | apply pw_below_drewN | apply below_drew1) | exact HB.out)))); (case aL => have := LMc19.out; omega); intro v282 w23 ho hb hg hat; rw [← Ny281.out] at ho; have n0_ := Aside0.mk (hb); have n1_ := Aside0.mk (ho); clear HB; clear HO280; have HB := n0_; have HO283 := n1_; clear n0_ n1_; clear ho hb hg hat))
            go_loopg [8] kj3 (fun kq v8 w' => ∃ (x8_2 : Int), v8 = .int .i64 x8_2 ∧ Aside0 (doorkeeperlaw22_AclParents.l0 kq l0 l1 y281 x8_2 = some r) ∧ Aside0 (kq ≤ kj3) ∧ Aside0 (Kd.R Kd.string 9 w' w.heap.size (fun _ => True) v282 y281) ∧ Aside0 (Below w.heap.size w w'))
            case atStart => exact ⟨(0), (by first | rfl | (simp; done) | (simp [*]; done)), H', ⟨Nat.le_refl _⟩, ⟨by (with_reducible repeat (first | apply Kd.R_alloc | apply Kd.R_drewN | apply Kd.R_drew)); exact HO283.out⟩, ⟨by repeat (first | (with_reducible first | exact HB.out | apply below_alloc | apply pw_below_drewN | apply below_drew1) | exact HB.out)⟩⟩
            case round =>
              clear H'
              try clear c1
              try clear p2
              try clear c6
              try clear c7
              try clear c8
              try clear c10
              try clear c12
              try clear c15
              try clear c18
              try clear c19
              try clear p2
              obtain ⟨x8_2, rfl, HA, HK2, HO_7, HB⟩ := hrel
              cases gk with
              | zero => exact absurd HA.out (by simp [doorkeeperlaw22_AclParents.l0])
              | succ k2 =>
                have H := HA.out
                clear HA
                simp only [doorkeeperlaw22_AclParents.l0] at H
                by_cases c24 : x8_2 < (l0.length : Int)
                · rw [if_pos c24] at H
                  have c24b0 : decide (x8_2 < (l0.length : Int)) = true := decide_eq_true c24
                  clear c24
                  by_cases c25 : 0 ≤ x8_2
                  · rw [if_pos c25] at H
                    have c25b0 : decide (0 ≤ x8_2) = true := decide_eq_true c25
                    clear c25
                    by_cases c26 : (((rd_T30 l0 x8_2).f0).length : Int) = (y281.length : Int)
                    · rw [if_pos c26] at H
                      have c26b0 : ((((rd_T30 l0 x8_2).f0).length : Int) == (y281.length : Int)) = true := beq_iff_eq.mpr c26
                      have c26b1 : ((((rd_T30 l0 x8_2).f0).length : Int) != (y281.length : Int)) = false := bne_eq_false_iff_eq.mpr c26
                      have c26b2 : (((rd_T30 l0 x8_2).f0).length == y281.length) = true := by first | simpa using c26 | (simp at c26 ⊢; omega)
                      clear c26
                      replace H := Option.bind_eq_some_iff.mp H
                      obtain ⟨t286, A270, H⟩ := H
                      replace H : (if t286 = true then (some true) else (doorkeeperlaw22_AclParents.l0 k2 l0 l1 y281 (wrap64 (x8_2 + 1)))) = some r := H
                      have A27 := Aside0.mk A270
                      clear A270
                      by_cases c28 : t286 = true
                      · subst c28
                        have H1 : (some true) = some r := by rw [if_pos rfl] at H; exact H
                        clear H
                        have H := H1
                        clear H1
                        obtain rfl := Option.some.inj H
                        have p284 : 0 ≤ (x8_2 : Int) := of_decide_eq_true (by first | (with_reducible assumption) | assumption)
                        have q284 : x8_2 < (l0.length : Int) := of_decide_eq_true (by first | (with_reducible assumption) | assumption)
                        obtain ⟨ad284, A284_0, c284_0, A284_1, c284_1, e284, hx284_0, hx284_1, hx284_2, hx284_3, hl284_0, hi284_0, hl284_1, hi284_1⟩ := at_T30 HR0.out x8_2 p284 q284
                        cases e284
                        replace hx284_0 := (HB.out.cell (World.block_lt_of_cell? w _ hx284_0)).trans hx284_0
                        replace hx284_1 := (HB.out.cell (World.block_lt_of_cell? w _ hx284_1)).trans hx284_1
                        replace hx284_2 := (HB.out.cell (World.block_lt_of_cell? w _ hx284_2)).trans hx284_2
                        replace hx284_3 := (HB.out.cell (World.block_lt_of_cell? w _ hx284_3)).trans hx284_3
                        have HR284_0 := Aside0.mk hi284_0
                        have HC284_0 := Aside0.mk hl284_0
                        clear hi284_0 hl284_0
                        have HR284_1 := Aside0.mk hi284_1
                        have HC284_1 := Aside0.mk hl284_1
                        clear hi284_1 hl284_1
                        replace p284 := eq_true p284
                        replace q284 := eq_true q284
                        obtain ⟨Ao29, co29, eo29⟩ := Kd.R_slice HO_7.out
                        subst eo29
                        have p285 : 0 ≤ (x8_2 : Int) := of_decide_eq_true (by first | (with_reducible assumption) | assumption)
                        have q285 : x8_2 < (l0.length : Int) := of_decide_eq_true (by first | (with_reducible assumption) | assumption)
                        obtain ⟨ad285, A285_0, c285_0, A285_1, c285_1, e285, hx285_0, hx285_1, hx285_2, hx285_3, hl285_0, hi285_0, hl285_1, hi285_1⟩ := at_T30 HR0.out x8_2 p285 q285
                        obtain rfl : ad284 = ad285 := (by injection e285)
                        replace hx285_0 := (HB.out.cell (World.block_lt_of_cell? w _ hx285_0)).trans hx285_0
                        replace hx285_1 := (HB.out.cell (World.block_lt_of_cell? w _ hx285_1)).trans hx285_1
                        replace hx285_2 := (HB.out.cell (World.block_lt_of_cell? w _ hx285_2)).trans hx285_2
                        replace hx285_3 := (HB.out.cell (World.block_lt_of_cell? w _ hx285_3)).trans hx285_3
                        have HR285_0 := Aside0.mk hi285_0
                        have HC285_0 := Aside0.mk hl285_0
                        clear hi285_0 hl285_0
                        have HR285_1 := Aside0.mk hi285_1
                        have HC285_1 := Aside0.mk hl285_1
                        clear hi285_1 hl285_1
                        replace p285 := eq_true p285
                        replace q285 := eq_true q285
                        have ea_ := Option.some.inj (hx284_0.symm.trans hx285_0)
                        injection ea_ with ea_ en_ ec_
                        subst ea_
                        subst ec_
                        clear en_
                        have ea_ := Option.some.inj (hx284_1.symm.trans hx285_1)
                        injection ea_ with ea_ en_ ec_
                        subst ea_
                        subst ec_
                        clear en_
                        go_wp2_with (first | (go_at_call 22; (with_reducible refine (doorkeeperref09_Texts.calls k2 _ _ ((rd_T30 l0 x8_2).f0) _ _ y281 true _ ?side1 ?side2 ?side3 ?side4 A27.out).mono ?_); (case side1 => repeat (first | exact (Kd.C_below HR285_0.out HB.out) | (with_reducible refine Kd.C_alloc ?_ _) | (with_reducible refine Kd.C_drewN ?_ _) | (with_reducible refine Kd.C_drew ?_))); (case side2 => exact HC285_0.out); (case side3 => repeat (first | exact (Kd.R_reads' HO_7.out).2.2 | (with_reducible refine Kd.C_alloc ?_ _) | (with_reducible refine Kd.C_drewN ?_ _) | (with_reducible refine Kd.C_drew ?_))); (case side4 => exact (Kd.R_reads' HO_7.out).2.1); rintro e w' ⟨rfl, ⟨nd, rfl⟩⟩))
                        go_ret
                        exact ⟨by first | rfl | (simp [errW_none, errW_some] <;> rfl) | (simp [*, errW_none, errW_some] <;> rfl), by repeat (first | (with_reducible first | exact HB.out | apply below_alloc | apply pw_below_drewN | apply below_drew1) | exact HB.out)⟩
                      · replace c28 := Bool.eq_false_iff.mpr c28
                        subst c28
                        have H1 : (doorkeeperlaw22_AclParents.l0 k2 l0 l1 y281 (wrap64 (x8_2 + 1))) = some r := by rw [if_neg (show ¬ (false = true) by decide)] at H; exact H
                        clear H
                        have H := H1
                        clear H1
                        have H' := Aside0.mk H
                        clear H
                        have p284 : 0 ≤ (x8_2 : Int) := of_decide_eq_true (by first | (with_reducible assumption) | assumption)
                        have q284 : x8_2 < (l0.length : Int) := of_decide_eq_true (by first | (with_reducible assumption) | assumption)
                        obtain ⟨ad284, A284_0, c284_0, A284_1, c284_1, e284, hx284_0, hx284_1, hx284_2, hx284_3, hl284_0, hi284_0, hl284_1, hi284_1⟩ := at_T30 HR0.out x8_2 p284 q284
                        cases e284
                        replace hx284_0 := (HB.out.cell (World.block_lt_of_cell? w _ hx284_0)).trans hx284_0
                        replace hx284_1 := (HB.out.cell (World.block_lt_of_cell? w _ hx284_1)).trans hx284_1
                        replace hx284_2 := (HB.out.cell (World.block_lt_of_cell? w _ hx284_2)).trans hx284_2
                        replace hx284_3 := (HB.out.cell (World.block_lt_of_cell? w _ hx284_3)).trans hx284_3
                        have HR284_0 := Aside0.mk hi284_0
                        have HC284_0 := Aside0.mk hl284_0
                        clear hi284_0 hl284_0
                        have HR284_1 := Aside0.mk hi284_1
                        have HC284_1 := Aside0.mk hl284_1
                        clear hi284_1 hl284_1
                        replace p284 := eq_true p284
                        replace q284 := eq_true q284
                        obtain ⟨Ao30, co30, eo30⟩ := Kd.R_slice HO_7.out
                        subst eo30
                        have p285 : 0 ≤ (x8_2 : Int) := of_decide_eq_true (by first | (with_reducible assumption) | assumption)
                        have q285 : x8_2 < (l0.length : Int) := of_decide_eq_true (by first | (with_reducible assumption) | assumption)
                        obtain ⟨ad285, A285_0, c285_0, A285_1, c285_1, e285, hx285_0, hx285_1, hx285_2, hx285_3, hl285_0, hi285_0, hl285_1, hi285_1⟩ := at_T30 HR0.out x8_2 p285 q285
                        obtain rfl : ad284 = ad285 := (by injection e285)
                        replace hx285_0 := (HB.out.cell (World.block_lt_of_cell? w _ hx285_0)).trans hx285_0
                        replace hx285_1 := (HB.out.cell (World.block_lt_of_cell? w _ hx285_1)).trans hx285_1
                        replace hx285_2 := (HB.out.cell (World.block_lt_of_cell? w _ hx285_2)).trans hx285_2
                        replace hx285_3 := (HB.out.cell (World.block_lt_of_cell? w _ hx285_3)).trans hx285_3
                        have HR285_0 := Aside0.mk hi285_0
                        have HC285_0 := Aside0.mk hl285_0
                        clear hi285_0 hl285_0
                        have HR285_1 := Aside0.mk hi285_1
                        have HC285_1 := Aside0.mk hl285_1
                        clear hi285_1 hl285_1
                        replace p285 := eq_true p285
                        replace q285 := eq_true q285
                        have ea_ := Option.some.inj (hx284_0.symm.trans hx285_0)
                        injection ea_ with ea_ en_ ec_
                        subst ea_
                        subst ec_
                        clear en_
                        have ea_ := Option.some.inj (hx284_1.symm.trans hx285_1)
                        injection ea_ with ea_ en_ ec_
                        subst ea_
                        subst ec_
                        clear en_
                        go_wp2_with (first | (go_at_call 22; (with_reducible refine (doorkeeperref09_Texts.calls k2 _ _ ((rd_T30 l0 x8_2).f0) _ _ y281 false _ ?side1 ?side2 ?side3 ?side4 A27.out).mono ?_); (case side1 => repeat (first | exact (Kd.C_below HR285_0.out HB.out) | (with_reducible refine Kd.C_alloc ?_ _) | (with_reducible refine Kd.C_drewN ?_ _) | (with_reducible refine Kd.C_drew ?_))); (case side2 => exact HC285_0.out); (case side3 => repeat (first | exact (Kd.R_reads' HO_7.out).2.2 | (with_reducible refine Kd.C_alloc ?_ _) | (with_reducible refine Kd.C_drewN ?_ _) | (with_reducible refine Kd.C_drew ?_))); (case side4 => exact (Kd.R_reads' HO_7.out).2.1); rintro e w' ⟨rfl, ⟨nd, rfl⟩⟩))
                        go_roundg k2
                        case measure => have := HJ3.out; have := HK2.out; omega
                        case rel => exact ⟨(wrap64 (x8_2 + 1)), (by first | rfl | (simp; done) | (simp [*]; done)), H', ⟨by have := HJ3.out; have := HK2.out; omega⟩, ⟨by (with_reducible repeat (first | apply Kd.R_alloc | apply Kd.R_drewN | apply Kd.R_drew)); exact HO_7.out⟩, ⟨by repeat (first | (with_reducible first | exact HB.out | apply below_alloc | apply pw_below_drewN | apply below_drew1) | exact HB.out)⟩⟩
                    · rw [if_neg c26] at H
                      have c26b0 : ((((rd_T30 l0 x8_2).f0).length : Int) == (y281.length : Int)) = false := beq_eq_false_iff_ne.mpr c26
                      have c26b1 : ((((rd_T30 l0 x8_2).f0).length : Int) != (y281.length : Int)) = true := bne_iff_ne.mpr c26
                      have c26b2 : (((rd_T30 l0 x8_2).f0).length == y281.length) = false := by first | simpa using c26 | (simp at c26 ⊢; omega)
                      have H' := Aside0.mk H
                      clear H
                      have p284 : 0 ≤ (x8_2 : Int) := of_decide_eq_true (by first | (with_reducible assumption) | assumption)
                      have q284 : x8_2 < (l0.length : Int) := of_decide_eq_true (by first | (with_reducible assumption) | assumption)
                      obtain ⟨ad284, A284_0, c284_0, A284_1, c284_1, e284, hx284_0, hx284_1, hx284_2, hx284_3, hl284_0, hi284_0, hl284_1, hi284_1⟩ := at_T30 HR0.out x8_2 p284 q284
                      cases e284
                      replace hx284_0 := (HB.out.cell (World.block_lt_of_cell? w _ hx284_0)).trans hx284_0
                      replace hx284_1 := (HB.out.cell (World.block_lt_of_cell? w _ hx284_1)).trans hx284_1
                      replace hx284_2 := (HB.out.cell (World.block_lt_of_cell? w _ hx284_2)).trans hx284_2
                      replace hx284_3 := (HB.out.cell (World.block_lt_of_cell? w _ hx284_3)).trans hx284_3
                      have HR284_0 := Aside0.mk hi284_0
                      have HC284_0 := Aside0.mk hl284_0
                      clear hi284_0 hl284_0
                      have HR284_1 := Aside0.mk hi284_1
                      have HC284_1 := Aside0.mk hl284_1
                      clear hi284_1 hl284_1
                      replace p284 := eq_true p284
                      replace q284 := eq_true q284
                      obtain ⟨Ao31, co31, eo31⟩ := Kd.R_slice HO_7.out
                      subst eo31
                      go_wp2
                      go_roundg k2
                      case measure => have := HJ3.out; have := HK2.out; omega
                      case rel => exact ⟨(wrap64 (x8_2 + 1)), (by first | rfl | (simp; done) | (simp [*]; done)), H', ⟨by have := HJ3.out; have := HK2.out; omega⟩, ⟨by (with_reducible repeat (first | apply Kd.R_alloc | apply Kd.R_drewN | apply Kd.R_drew)); exact HO_7.out⟩, ⟨by repeat (first | (with_reducible first | exact HB.out | apply below_alloc | apply pw_below_drewN | apply below_drew1) | exact HB.out)⟩⟩
                  · rw [if_neg c25] at H
                    exact absurd H (by simp)
                · rw [if_neg c24] at H
                  have c24b0 : decide (x8_2 < (l0.length : Int)) = false := decide_eq_false c24
                  clear c24
                  replace H := Option.bind_eq_some_iff.mp H
                  obtain ⟨⟨t287, t290, t293, t294⟩, A320, H⟩ := H
                  replace H : ((acl_Match.f k2 l0 l1).bind fun bt295 => ((doorkeeperref20_SameRule.f k2 t287 t290 t293 t294 bt295.1 bt295.2.1 bt295.2.2.1 bt295.2.2.2).bind fun t303 => (some t303))) = some r := H
                  have A32 := Aside0.mk A320
                  clear A320
                  replace H := Option.bind_eq_some_iff.mp H
                  obtain ⟨⟨t295, t298, t301, t302⟩, A330, H⟩ := H
                  replace H : ((doorkeeperref20_SameRule.f k2 t287 t290 t293 t294 t295 t298 t301 t302).bind fun t303 => (some t303)) = some r := H
                  have A33 := Aside0.mk A330
                  clear A330
                  replace H := Option.bind_eq_some_iff.mp H
                  obtain ⟨t303, A340, H⟩ := H
                  replace H : (some t303) = some r := H
                  have A34 := Aside0.mk A340
                  clear A340
                  obtain rfl := Option.some.inj H
                  obtain ⟨Ao35, co35, eo35⟩ := Kd.R_slice HO_7.out
                  subst eo35
                  go_wp2_with (first | ((with_reducible refine gate_callee (f := 16) rfl ?_); refine goesL_ (some 59) rfl rfl Tryd.func16 (by kernel_rfl) rfl #[.slice A0 l0.length c0, .slice Ao35 y281.length co35] rfl (by (try simp only [List.map_toArray, List.map_cons, List.map_nil]); first | done | rfl | (simp only [List.length_drop, List.length_take]; rfl)) ?_; (with_reducible refine (acl_Match.calls k2 (fun k_ => k_ < w.heap.size) _ _ l0 _ _ y281 t287 t290 t293 t294 _ ?side1 ?side2 ?side3 A32.out).mono ?_); (case side1 => exact Kd.V_mk HC0.out (Kd.F_below (Kd.C_F k30_heap HR0.out) (by repeat (first | (with_reducible first | exact HB.out | apply below_alloc | apply pw_below_drewN | apply below_drew1) | exact HB.out)))); (case side2 => repeat (first | exact (Kd.R_reads' HO_7.out).2.2 | (with_reducible refine Kd.C_alloc ?_ _) | (with_reducible refine Kd.C_drewN ?_ _) | (with_reducible refine Kd.C_drew ?_))); (case side3 => exact (Kd.R_reads' HO_7.out).2.1); rintro e w36 ⟨v288, v291, rfl, ho0, ho1, hb⟩; refine ⟨_, rfl, ?_⟩; have n0_ := Aside0.mk (Kd.R_below (by (with_reducible repeat (first | apply Kd.R_alloc | apply Kd.R_drewN | apply Kd.R_drew)); exact HO_7.out) hb); have n1_ := Aside0.mk (Kd.V_lower (Kd.V_mono (ok' := fun k_ => some k_ ≠ (.slice Ao35 y281.length co35 : Value).ownBlock) ho0 (fun k_ hk_ => Or.elim hk_ (fun hs_ => fun e_ => Nat.not_le.2 hs_ (Kd.R_base HO_7.out k_ e_.symm)) (fun hn_ => (Kd.fresh' (Kd.R_lt (by (with_reducible repeat (first | apply Kd.R_alloc | apply Kd.R_drewN | apply Kd.R_drew)); exact HO_7.out)) k_ hn_)))) (below_size (by repeat (first | (with_reducible first | exact HB.out | apply below_alloc | apply pw_below_drewN | apply below_drew1) | exact HB.out)))); have n2_ := Aside0.mk (Kd.V_lower (Kd.V_mono (ok' := fun k_ => some k_ ≠ (.slice Ao35 y281.length co35 : Value).ownBlock) ho1 (fun k_ hk_ => Or.elim hk_ (fun hs_ => fun e_ => Nat.not_le.2 hs_ (Kd.R_base HO_7.out k_ e_.symm)) (fun hn_ => (Kd.fresh' (Kd.R_lt (by (with_reducible repeat (first | apply Kd.R_alloc | apply Kd.R_drewN | apply Kd.R_drew)); exact HO_7.out)) k_ hn_)))) (below_size (by repeat (first | (with_reducible first | exact HB.out | apply below_alloc | apply pw_below_drewN | apply below_drew1) | exact HB.out)))); have n3_ := Aside0.mk (below_step (by repeat (first | (with_reducible first | exact HB.out | apply below_alloc | apply pw_below_drewN | apply below_drew1) | exact HB.out)) hb); clear HO_7; clear HB; have HO_7 := n0_; have HO289 := n1_; have HO292 := n2_; have HB := n3_; clear n0_ n1_ n2_ n3_; (try clear hb); (try clear hb2); (try clear hk); (try clear hi); (try clear ho0); (try clear ho1)) | ((with_reducible refine gate_callee (f := 16) rfl ?_); refine goesL_ (some 62) rfl rfl Tryd.func16 (by kernel_rfl) rfl #[.slice A0 l0.length c0, .slice A1 l1.length c1] rfl (by (try simp only [List.map_toArray, List.map_cons, List.map_nil]); first | done | rfl | (simp only [List.length_drop, List.length_take]; rfl)) ?_; (with_reducible refine (acl_Match.calls k2 (fun k_ => k_ < w.heap.size) _ _ l0 _ _ l1 t295 t298 t301 t302 _ ?side1 ?side2 ?side3 A33.out).mono ?_); (case side1 => exact Kd.V_mk HC0.out (Kd.F_below (Kd.C_F k30_heap HR0.out) (by repeat (first | (with_reducible first | exact HB.out | apply below_alloc | apply pw_below_drewN | apply below_drew1) | exact HB.out)))); (case side2 => repeat (first | exact (Kd.C_below HR1.out HB.out) | (with_reducible refine Kd.C_alloc ?_ _) | (with_reducible refine Kd.C_drewN ?_ _) | (with_reducible refine Kd.C_drew ?_))); (case side3 => exact HC1.out); rintro e w37 ⟨v296, v299, rfl, ho0, ho1, hb⟩; refine ⟨_, rfl, ?_⟩; have n0_ := Aside0.mk (Kd.R_below (by (with_reducible repeat (first | apply Kd.R_alloc | apply Kd.R_drewN | apply Kd.R_drew)); exact HO_7.out) hb); have n1_ := Aside0.mk (Kd.V_below (by (with_reducible repeat (first | apply Kd.V_alloc | apply Kd.V_drewN | apply Kd.V_drew)); exact HO289.out) hb); have n2_ := Aside0.mk (Kd.V_below (by (with_reducible repeat (first | apply Kd.V_alloc | apply Kd.V_drewN | apply Kd.V_drew)); exact HO292.out) hb); have n3_ := Aside0.mk (Kd.V_lower (Kd.V_mono (ok' := fun k_ => some k_ ≠ (.slice Ao35 y281.length co35 : Value).ownBlock) ho0 (fun k_ hk_ => Or.elim hk_ (fun hs_ => fun e_ => Nat.not_le.2 hs_ (Kd.R_base HO_7.out k_ e_.symm)) (fun hn_ => (Kd.fresh' (Kd.R_lt (by (with_reducible repeat (first | apply Kd.R_alloc | apply Kd.R_drewN | apply Kd.R_drew)); exact HO_7.out)) k_ hn_)))) (below_size (by repeat (first | (with_reducible first | exact HB.out | apply below_alloc | apply pw_below_drewN | apply below_drew1) | exact HB.out)))); have n4_ := Aside0.mk (Kd.V_lower (Kd.V_mono (ok' := fun k_ => some k_ ≠ (.slice Ao35 y281.length co35 : Value).ownBlock) ho1 (fun k_ hk_ => Or.elim hk_ (fun hs_ => fun e_ => Nat.not_le.2 hs_ (Kd.R_base HO_7.out k_ e_.symm)) (fun hn_ => (Kd.fresh' (Kd.R_lt (by (with_reducible repeat (first | apply Kd.R_alloc | apply Kd.R_drewN | apply Kd.R_drew)); exact HO_7.out)) k_ hn_)))) (below_size (by repeat (first | (with_reducible first | exact HB.out | apply below_alloc | apply pw_below_drewN | apply below_drew1) | exact HB.out)))); have n5_ := Aside0.mk (below_step (by repeat (first | (with_reducible first | exact HB.out | apply below_alloc | apply pw_below_drewN | apply below_drew1) | exact HB.out)) hb); clear HO_7; clear HO289; clear HO292; clear HB; have HO_7 := n0_; have HO289 := n1_; have HO292 := n2_; have HO297 := n3_; have HO300 := n4_; have HB := n5_; clear n0_ n1_ n2_ n3_ n4_ n5_; (try clear hb); (try clear hb2); (try clear hk); (try clear hi); (try clear ho0); (try clear ho1); obtain ⟨Ao38, co38, eo38⟩ := Kd.V_slice HO289.out; subst eo38; obtain ⟨Ao39, co39, eo39⟩ := Kd.V_slice HO292.out; subst eo39; obtain ⟨Ao40, co40, eo40⟩ := Kd.V_slice HO297.out; subst eo40; obtain ⟨Ao41, co41, eo41⟩ := Kd.V_slice HO300.out; subst eo41) | ((with_reducible refine gate_callee (f := 15) rfl ?_); refine goesL_ (some 63) rfl rfl Tryd.func15 (by kernel_rfl) rfl #[.agg #[.slice Ao38 t287.length co38, .slice Ao39 t290.length co39, .bool t293, .string t294], .agg #[.slice Ao40 t295.length co40, .slice Ao41 t298.length co41, .bool t301, .string t302]] rfl (by (try simp only [List.map_toArray, List.map_cons, List.map_nil]); first | done | rfl | (simp only [List.length_drop, List.length_take]; rfl)) ?_; (with_reducible refine (doorkeeperref20_SameRule.calls k2 _ _ t287 _ _ t290 t293 t294 _ _ t295 _ _ t298 t301 t302 t303 _ ?side1 ?side2 ?side3 ?side4 ?side5 ?side6 ?side7 ?side8 A34.out).mono ?_); (case side1 => repeat (first | exact (Kd.V_reads' HO289.out).2.2 | (with_reducible refine Kd.C_alloc ?_ _) | (with_reducible refine Kd.C_drewN ?_ _) | (with_reducible refine Kd.C_drew ?_))); (case side2 => exact (Kd.V_reads' HO289.out).2.1); (case side3 => repeat (first | exact (Kd.V_reads' HO292.out).2.2 | (with_reducible refine Kd.C_alloc ?_ _) | (with_reducible refine Kd.C_drewN ?_ _) | (with_reducible refine Kd.C_drew ?_))); (case side4 => exact (Kd.V_reads' HO292.out).2.1); (case side5 => repeat (first | exact (Kd.V_reads' HO297.out).2.2 | (with_reducible refine Kd.C_alloc ?_ _) | (with_reducible refine Kd.C_drewN ?_ _) | (with_reducible refine Kd.C_drew ?_))); (case side6 => exact (Kd.V_reads' HO297.out).2.1); (case side7 => repeat (first | exact (Kd.V_reads' HO300.out).2.2 | (with_reducible refine Kd.C_alloc ?_ _) | (with_reducible refine Kd.C_drewN ?_ _) | (with_reducible refine Kd.C_drew ?_))); (case side8 => exact (Kd.V_reads' HO300.out).2.1); rintro e w42 ⟨rfl, hb⟩; refine ⟨_, rfl, ?_⟩; have n0_ := Aside0.mk (Kd.R_below (by (with_reducible repeat (first | apply Kd.R_alloc | apply Kd.R_drewN | apply Kd.R_drew)); exact HO_7.out) hb); have n1_ := Aside0.mk (Kd.V_below (by (with_reducible repeat (first | apply Kd.V_alloc | apply Kd.V_drewN | apply Kd.V_drew)); exact HO289.out) hb); have n2_ := Aside0.mk (Kd.V_below (by (with_reducible repeat (first | apply Kd.V_alloc | apply Kd.V_drewN | apply Kd.V_drew)); exact HO292.out) hb); have n3_ := Aside0.mk (Kd.V_below (by (with_reducible repeat (first | apply Kd.V_alloc | apply Kd.V_drewN | apply Kd.V_drew)); exact HO297.out) hb); have n4_ := Aside0.mk (Kd.V_below (by (with_reducible repeat (first | apply Kd.V_alloc | apply Kd.V_drewN | apply Kd.V_drew)); exact HO300.out) hb); have n5_ := Aside0.mk (below_step (by repeat (first | (with_reducible first | exact HB.out | apply below_alloc | apply pw_below_drewN | apply below_drew1) | exact HB.out)) hb); clear HO_7; clear HO289; clear HO292; clear HO297; clear HO300; clear HB; have HO_7 := n0_; have HO289 := n1_; have HO292 := n2_; have HO297 := n3_; have HO300 := n4_; have HB := n5_; clear n0_ n1_ n2_ n3_ n4_ n5_; (try clear hb); (try clear hb2); (try clear hk); (try clear hi)))
                  go_ret
                  exact ⟨by first | rfl | (simp [errW_none, errW_some] <;> rfl) | (simp [*, errW_none, errW_some] <;> rfl), by repeat (first | (with_reducible first | exact HB.out | apply below_alloc | apply pw_below_drewN | apply below_drew1) | exact HB.out)⟩
          · rw [if_neg c19] at H
            exact absurd H (by simp)
        · rw [if_neg c18] at H
          exact absurd H (by simp)

end Go.Proofs.YtjapmlfjlojbeaaDoor.PA
