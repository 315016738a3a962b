/- Contracts of doorkeeperlaw22_AclOwn, as the kit's print.py wrote them over the translation. Conditions: those that each contract names. -/
import Derived.Test.YtjapmlfjlojbeaaDoorPA0
import Derived.Test.YtjapmlfjlojbeaaDoorHF
import Derived.Test.YtjapmlfjlojbeaaDoorHA
import Derived.Test.YtjapmlfjlojbeaaDoorHO
import Derived.Test.YtjapmlfjlojbeaaDoorPBa
import Derived.Test.YtjapmlfjlojbeaaDoorPBb
import Derived.Test.YtjapmlfjlojbeaaDoorHF
namespace Go.Proofs.YtjapmlfjlojbeaaDoor.PA
open Go.RowKit Go.Proofs.YtjapmlfjlojbeaaDoorW.PrintWords Go.Proofs.YtjapmlfjlojbeaaDoorW.PrintLast Go.Proofs.YtjapmlfjlojbeaaDoorW.PrintMore
attribute [local go_sem] max2_int min2_int max_two min_two max_three min_three max_four min_four   -- for this text's walks alone
set_option linter.unusedVariables false
set_option linter.unusedVariables false
set_option linter.unusedSimpArgs false

/-! ### doorkeeperlaw22_AclOwn: function 5 -/
mutual
def doorkeeperlaw22_AclOwn.j0 : Nat → List (S30) → List ByteArray → Bool → Option (Bool)
  | 0, _, _, _ => none
  | k + 1, x0, x1, x18 => if x18 = true then ((doorkeeperlaw22_awake.f).bind fun t216 => (some t216)) else (doorkeeperlaw22_AclOwn.l0 k x0 x1 0)
def doorkeeperlaw22_AclOwn.l0 : Nat → List (S30) → List ByteArray → Int → Option (Bool)
  | 0, _, _, _ => none
  | k + 1, x0, x1, x5 => if x5 < (x0.length : Int) then (if 0 ≤ x5 then ((acl_Match.f k x0 ((rd_T30 x0 x5).f0)).bind fun bt218 => ((doorkeeperref09_Texts.f k bt218.1 ((rd_T30 x0 x5).f0)).bind fun t226 => (if t226 = true then ((acl_Match.f k x0 ((rd_T30 x0 x5).f0)).bind fun bt227 => ((doorkeeperref22_Match.f k x0 ((rd_T30 x0 x5).f0)).bind fun bt235 => ((doorkeeperref20_SameRule.f k bt227.1 bt227.2.1 bt227.2.2.1 bt227.2.2.2 bt235.1 bt235.2.1 bt235.2.2.1 bt235.2.2.2).bind fun t243 => (doorkeeperlaw22_AclOwn.j2 k x0 x1 x5 ((rd_T30 x0 x5).f0) (!t243))))) else (doorkeeperlaw22_AclOwn.j2 k x0 x1 x5 ((rd_T30 x0 x5).f0) true)))) else (none)) else (some true)
def doorkeeperlaw22_AclOwn.j2 : Nat → List (S30) → List ByteArray → Int → List ByteArray → Bool → Option (Bool)
  | 0, _, _, _, _, _ => none
  | k + 1, x0, x1, x5, x6, x47 => if x47 = true then (some false) else ((some (([] : List ByteArray) : List ByteArray)).bind fun y244 => (if y244.length + x6.length < 8796093022208 then ((some (y244 ++ x6 : List ByteArray)).bind fun y247 => (if y247.length + x1.length < 8796093022208 then ((acl_Match.f k x0 (y247 ++ x1)).bind fun bt253 => (if (bt253.1.length : Int) < (x6.length : Int) then (some false) else (doorkeeperlaw22_AclOwn.l0 k x0 x1 (wrap64 (x5 + 1))))) else (none))) else (none)))
end
def doorkeeperlaw22_AclOwn.f (k : Nat) (l0 : List (S30)) (l1 : List ByteArray) : Option (Bool) := (doorkeeperlaw22_awake.f).bind fun t214 => (if t214 = true then ((doorkeeperref22_Few.f k l0).bind fun t215 => (if t215 = true then (doorkeeperlaw22_AclOwn.j0 k l0 l1 (decide ((l1.length : Int) > 10))) else (doorkeeperlaw22_AclOwn.j0 k l0 l1 true))) else (doorkeeperlaw22_AclOwn.j0 k l0 l1 true))
theorem doorkeeperlaw22_AclOwn.mono_l : ∀ k, (∀ y0 y1 y2, LeO (doorkeeperlaw22_AclOwn.j0 k y0 y1 y2) (doorkeeperlaw22_AclOwn.j0 (k + 1) y0 y1 y2)) ∧ (∀ y0 y1 y2, LeO (doorkeeperlaw22_AclOwn.l0 k y0 y1 y2) (doorkeeperlaw22_AclOwn.l0 (k + 1) y0 y1 y2)) ∧ (∀ y0 y1 y2 y3 y4, LeO (doorkeeperlaw22_AclOwn.j2 k y0 y1 y2 y3 y4) (doorkeeperlaw22_AclOwn.j2 (k + 1) y0 y1 y2 y3 y4))
  | 0 => ⟨fun _ _ _ r h => by simp [doorkeeperlaw22_AclOwn.j0] at h, fun _ _ _ r h => by simp [doorkeeperlaw22_AclOwn.l0] at h, fun _ _ _ _ _ r h => by simp [doorkeeperlaw22_AclOwn.j2] at h⟩
  | k + 1 => by
    obtain ⟨ih0, ih1, ih2⟩ := doorkeeperlaw22_AclOwn.mono_l k
    refine ⟨?_, ?_, ?_⟩
    · intro y0 y1 y2
      unfold doorkeeperlaw22_AclOwn.j0
      repeat' first
      | (with_reducible exact ih0 _ _ _)
      | (with_reducible exact ih1 _ _ _)
      | (with_reducible exact ih2 _ _ _ _ _)
      | (with_reducible exact acl_Match.mono _ _ _)
      | (with_reducible exact doorkeeperref09_Texts.mono _ _ _)
      | (with_reducible exact doorkeeperref20_SameRule.mono _ _ _ _ _ _ _ _ _)
      | (with_reducible exact doorkeeperref22_Few.mono _ _)
      | (with_reducible exact doorkeeperref22_Match.mono _ _ _)
      | (with_reducible exact LeO.refl _)
      | (with_reducible exact LeO.none _)
      | (with_reducible refine LeO.ite ?_ ?_)
      | (with_reducible refine LeO.bind ?_ (fun _ => ?_))
      | exact ih0 _ _ _
      | exact ih1 _ _ _
      | exact ih2 _ _ _ _ _
      | exact acl_Match.mono _ _ _
      | exact doorkeeperref09_Texts.mono _ _ _
      | exact doorkeeperref20_SameRule.mono _ _ _ _ _ _ _ _ _
      | exact doorkeeperref22_Few.mono _ _
      | exact doorkeeperref22_Match.mono _ _ _
      | exact LeO.none _
      | refine LeO.ite ?_ ?_
      | refine LeO.bind ?_ (fun _ => ?_)
    · intro y0 y1 y2
      unfold doorkeeperlaw22_AclOwn.l0
      repeat' first
      | (with_reducible exact ih0 _ _ _)
      | (with_reducible exact ih1 _ _ _)
      | (with_reducible exact ih2 _ _ _ _ _)
      | (with_reducible exact acl_Match.mono _ _ _)
      | (with_reducible exact doorkeeperref09_Texts.mono _ _ _)
      | (with_reducible exact doorkeeperref20_SameRule.mono _ _ _ _ _ _ _ _ _)
      | (with_reducible exact doorkeeperref22_Few.mono _ _)
      | (with_reducible exact doorkeeperref22_Match.mono _ _ _)
      | (with_reducible exact LeO.refl _)
      | (with_reducible exact LeO.none _)
      | (with_reducible refine LeO.ite ?_ ?_)
      | (with_reducible refine LeO.bind ?_ (fun _ => ?_))
      | exact ih0 _ _ _
      | exact ih1 _ _ _
      | exact ih2 _ _ _ _ _
      | exact acl_Match.mono _ _ _
      | exact doorkeeperref09_Texts.mono _ _ _
      | exact doorkeeperref20_SameRule.mono _ _ _ _ _ _ _ _ _
      | exact doorkeeperref22_Few.mono _ _
      | exact doorkeeperref22_Match.mono _ _ _
      | exact LeO.none _
      | refine LeO.ite ?_ ?_
      | refine LeO.bind ?_ (fun _ => ?_)
    · intro y0 y1 y2 y3 y4
      unfold doorkeeperlaw22_AclOwn.j2
      repeat' first
      | (with_reducible exact ih0 _ _ _)
      | (with_reducible exact ih1 _ _ _)
      | (with_reducible exact ih2 _ _ _ _ _)
      | (with_reducible exact acl_Match.mono _ _ _)
      | (with_reducible exact doorkeeperref09_Texts.mono _ _ _)
      | (with_reducible exact doorkeeperref20_SameRule.mono _ _ _ _ _ _ _ _ _)
      | (with_reducible exact doorkeeperref22_Few.mono _ _)
      | (with_reducible exact doorkeeperref22_Match.mono _ _ _)
      | (with_reducible exact LeO.refl _)
      | (with_reducible exact LeO.none _)
      | (with_reducible refine LeO.ite ?_ ?_)
      | (with_reducible refine LeO.bind ?_ (fun _ => ?_))
      | exact ih0 _ _ _
      | exact ih1 _ _ _
      | exact ih2 _ _ _ _ _
      | exact acl_Match.mono _ _ _
      | exact doorkeeperref09_Texts.mono _ _ _
      | exact doorkeeperref20_SameRule.mono _ _ _ _ _ _ _ _ _
      | exact doorkeeperref22_Few.mono _ _
      | exact doorkeeperref22_Match.mono _ _ _
      | exact LeO.none _
      | refine LeO.ite ?_ ?_
      | refine LeO.bind ?_ (fun _ => ?_)
theorem doorkeeperlaw22_AclOwn.mono : ∀ a0 a1 k, LeO (doorkeeperlaw22_AclOwn.f k a0 a1) (doorkeeperlaw22_AclOwn.f (k + 1) a0 a1) := by
  intro a0 a1 k
  obtain ⟨ih0, ih1, ih2⟩ := doorkeeperlaw22_AclOwn.mono_l k
  unfold doorkeeperlaw22_AclOwn.f
  repeat' first
      | (with_reducible exact ih0 _ _ _)
      | (with_reducible exact ih1 _ _ _)
      | (with_reducible exact ih2 _ _ _ _ _)
      | (with_reducible exact acl_Match.mono _ _ _)
      | (with_reducible exact doorkeeperref09_Texts.mono _ _ _)
      | (with_reducible exact doorkeeperref20_SameRule.mono _ _ _ _ _ _ _ _ _)
      | (with_reducible exact doorkeeperref22_Few.mono _ _)
      | (with_reducible exact doorkeeperref22_Match.mono _ _ _)
      | (with_reducible exact LeO.refl _)
      | (with_reducible exact LeO.none _)
      | (with_reducible refine LeO.ite ?_ ?_)
      | (with_reducible refine LeO.bind ?_ (fun _ => ?_))
      | exact ih0 _ _ _
      | exact ih1 _ _ _
      | exact ih2 _ _ _ _ _
      | exact acl_Match.mono _ _ _
      | exact doorkeeperref09_Texts.mono _ _ _
      | exact doorkeeperref20_SameRule.mono _ _ _ _ _ _ _ _ _
      | exact doorkeeperref22_Few.mono _ _
      | exact doorkeeperref22_Match.mono _ _ _
      | exact LeO.none _
      | refine LeO.ite ?_ ?_
      | refine LeO.bind ?_ (fun _ => ?_)
set_option maxHeartbeats 8000000 in
set_option maxRecDepth 100000 in
theorem doorkeeperlaw22_AclOwn.calls (k : Nat) (A0 : Option Addr) (c0 : Nat) (l0 : List (S30)) (A1 : Option Addr) (c1 : Nat) (l1 : List ByteArray) (r : Bool) (w : World) (hr0 : Kd.C k30 w A0 l0.length l0) (hc0 : l0.length ≤ c0) (hr1 : Kd.C Kd.string w A1 l1.length l1) (hc1 : l1.length ≤ c1) (h : doorkeeperlaw22_AclOwn.f k l0 l1 = some r) (hL : Laid w) :
    Calls Tryd.prog 5 #[.slice A0 l0.length c0, .slice A1 l1.length c1] w fun e w' => e = .returned (.bool r) ∧ Below w.heap.size w w' := by
  have hu30 := Tryd.underlying30
  have hfd0 := fd30_0
  have HL := Aside0.mk hL
  clear hL
  have HR0 := Aside0.mk hr0
  have HC0 := Aside0.mk hc0
  clear hr0 hc0
  have HR1 := Aside0.mk hr1
  have HC1 := Aside0.mk hc1
  clear hr1 hc1
  have HB := Aside0.mk (Below.refl w.heap.size w)
  have H : ((doorkeeperlaw22_awake.f).bind fun t214 => (if t214 = true then ((doorkeeperref22_Few.f k l0).bind fun t215 => (if t215 = true then (doorkeeperlaw22_AclOwn.j0 k l0 l1 (decide ((l1.length : Int) > 10))) else (doorkeeperlaw22_AclOwn.j0 k l0 l1 true))) else (doorkeeperlaw22_AclOwn.j0 k l0 l1 true))) = some r := h
  clear h
  have HC3 := Aside0.mk H
  clear H
  go_enter Tryd.func5, Tryd.ntmps5
  go_upto_region 1 with (fail)
  go_cut [18] (fun v18 wc => ∃ (kq : Nat) (x18_2 : Bool), v18 = .bool x18_2 ∧ Aside0 (doorkeeperlaw22_AclOwn.j0 kq l0 l1 x18_2 = some r) ∧ Aside0 (kq ≤ k) ∧ Aside0 (Below w.heap.size w wc))
  case first =>
    have H := HC3.out
    clear HC3
    replace H := Option.bind_eq_some_iff.mp H
    obtain ⟨t214, A40, H⟩ := H
    replace H : (if t214 = true then ((doorkeeperref22_Few.f k l0).bind fun t215 => (if t215 = true then (doorkeeperlaw22_AclOwn.j0 k l0 l1 (decide ((l1.length : Int) > 10))) else (doorkeeperlaw22_AclOwn.j0 k l0 l1 true))) else (doorkeeperlaw22_AclOwn.j0 k l0 l1 true)) = some r := H
    have A4 := Aside0.mk A40
    clear A40
    by_cases c5 : t214 = true
    · subst c5
      have H1 : ((doorkeeperref22_Few.f k l0).bind fun t215 => (if t215 = true then (doorkeeperlaw22_AclOwn.j0 k l0 l1 (decide ((l1.length : Int) > 10))) else (doorkeeperlaw22_AclOwn.j0 k l0 l1 true))) = some r := by rw [if_pos rfl] at H; exact H
      clear H
      have H := H1
      clear H1
      replace H := Option.bind_eq_some_iff.mp H
      obtain ⟨t215, A60, H⟩ := H
      replace H : (if t215 = true then (doorkeeperlaw22_AclOwn.j0 k l0 l1 (decide ((l1.length : Int) > 10))) else (doorkeeperlaw22_AclOwn.j0 k l0 l1 true)) = some r := H
      have A6 := Aside0.mk A60
      clear A60
      by_cases c7 : t215 = true
      · subst c7
        have H1 : (doorkeeperlaw22_AclOwn.j0 k l0 l1 (decide ((l1.length : Int) > 10))) = some r := by rw [if_pos rfl] at H; exact H
        clear H
        have H := H1
        clear H1
        have H' := Aside0.mk H
        clear H
        go_wp2_with (first | ((with_reducible refine gate_callee (f := 12) rfl ?_); refine goesL_ (some 7) rfl rfl Tryd.func12 (by kernel_rfl) rfl #[] rfl (by (try simp only [List.map_toArray, List.map_cons, List.map_nil]); first | done | rfl | (simp only [List.length_drop, List.length_take]; rfl)) ?_; (with_reducible refine (doorkeeperlaw22_awake.calls  true _ A4.out ?sideL).mono ?_); (case sideL => first | exact HL.out.below (by repeat (first | (with_reducible first | exact HB.out | apply below_alloc | apply pw_below_drewN | apply below_drew1) | exact HB.out)) | exact (HL.out.below (by repeat (first | (with_reducible first | exact HB.out | apply below_alloc | apply pw_below_drewN | apply below_drew1) | exact HB.out))).1 | exact (HL.out.below (by repeat (first | (with_reducible first | exact HB.out | apply below_alloc | apply pw_below_drewN | apply below_drew1) | exact HB.out))).2); rintro e w8 ⟨rfl, hb⟩; refine ⟨_, rfl, ?_⟩; have n0_ := Aside0.mk (below_step (by repeat (first | (with_reducible first | exact HB.out | apply below_alloc | apply pw_below_drewN | apply below_drew1) | exact HB.out)) hb); clear HB; have HB := n0_; clear n0_; (try clear hb); (try clear hb2); (try clear hk); (try clear hi)) | (go_at_call 13; (with_reducible refine (doorkeeperref22_Few.calls k _ _ l0 true _ ?side1 ?side2 A6.out).mono ?_); (case side1 => repeat (first | exact (Kd.C_below HR0.out HB.out) | (with_reducible refine Kd.C_alloc ?_ _) | (with_reducible refine Kd.C_drewN ?_ _) | (with_reducible refine Kd.C_drew ?_))); (case side2 => exact HC0.out); rintro e w' ⟨rfl, ⟨nd, rfl⟩⟩))
        go_meet
        case rel => exact ⟨_, (decide ((l1.length : Int) > 10)), (by first | rfl | (simp; done) | (simp [*]; done)), H', ⟨by first | omega | exact Nat.le_refl _⟩, ⟨by repeat (first | (with_reducible first | exact HB.out | apply below_alloc | apply pw_below_drewN | apply below_drew1) | exact HB.out)⟩⟩
      · replace c7 := Bool.eq_false_iff.mpr c7
        subst c7
        have H1 : (doorkeeperlaw22_AclOwn.j0 k l0 l1 true) = some r := by rw [if_neg (show ¬ (false = true) by decide)] at H; exact H
        clear H
        have H := H1
        clear H1
        have H' := Aside0.mk H
        clear H
        go_wp2_with (first | ((with_reducible refine gate_callee (f := 12) rfl ?_); refine goesL_ (some 7) rfl rfl Tryd.func12 (by kernel_rfl) rfl #[] rfl (by (try simp only [List.map_toArray, List.map_cons, List.map_nil]); first | done | rfl | (simp only [List.length_drop, List.length_take]; rfl)) ?_; (with_reducible refine (doorkeeperlaw22_awake.calls  true _ A4.out ?sideL).mono ?_); (case sideL => first | exact HL.out.below (by repeat (first | (with_reducible first | exact HB.out | apply below_alloc | apply pw_below_drewN | apply below_drew1) | exact HB.out)) | exact (HL.out.below (by repeat (first | (with_reducible first | exact HB.out | apply below_alloc | apply pw_below_drewN | apply below_drew1) | exact HB.out))).1 | exact (HL.out.below (by repeat (first | (with_reducible first | exact HB.out | apply below_alloc | apply pw_below_drewN | apply below_drew1) | exact HB.out))).2); rintro e w9 ⟨rfl, hb⟩; refine ⟨_, rfl, ?_⟩; have n0_ := Aside0.mk (below_step (by repeat (first | (with_reducible first | exact HB.out | apply below_alloc | apply pw_below_drewN | apply below_drew1) | exact HB.out)) hb); clear HB; have HB := n0_; clear n0_; (try clear hb); (try clear hb2); (try clear hk); (try clear hi)) | (go_at_call 13; (with_reducible refine (doorkeeperref22_Few.calls k _ _ l0 false _ ?side1 ?side2 A6.out).mono ?_); (case side1 => repeat (first | exact (Kd.C_below HR0.out HB.out) | (with_reducible refine Kd.C_alloc ?_ _) | (with_reducible refine Kd.C_drewN ?_ _) | (with_reducible refine Kd.C_drew ?_))); (case side2 => exact HC0.out); rintro e w' ⟨rfl, ⟨nd, rfl⟩⟩))
        go_meet
        case rel => exact ⟨_, (true), (by first | rfl | (simp; done) | (simp [*]; done)), H', ⟨by first | omega | exact Nat.le_refl _⟩, ⟨by repeat (first | (with_reducible first | exact HB.out | apply below_alloc | apply pw_below_drewN | apply below_drew1) | exact HB.out)⟩⟩
    · replace c5 := Bool.eq_false_iff.mpr c5
      subst c5
      have H1 : (doorkeeperlaw22_AclOwn.j0 k l0 l1 true) = some r := by rw [if_neg (show ¬ (false = true) by decide)] at H; exact H
      clear H
      have H := H1
      clear H1
      have H' := Aside0.mk H
      clear H
      go_wp2_with (first | ((with_reducible refine gate_callee (f := 12) rfl ?_); refine goesL_ (some 7) rfl rfl Tryd.func12 (by kernel_rfl) rfl #[] rfl (by (try simp only [List.map_toArray, List.map_cons, List.map_nil]); first | done | rfl | (simp only [List.length_drop, List.length_take]; rfl)) ?_; (with_reducible refine (doorkeeperlaw22_awake.calls  false _ A4.out ?sideL).mono ?_); (case sideL => first | exact HL.out.below (by repeat (first | (with_reducible first | exact HB.out | apply below_alloc | apply pw_below_drewN | apply below_drew1) | exact HB.out)) | exact (HL.out.below (by repeat (first | (with_reducible first | exact HB.out | apply below_alloc | apply pw_below_drewN | apply below_drew1) | exact HB.out))).1 | exact (HL.out.below (by repeat (first | (with_reducible first | exact HB.out | apply below_alloc | apply pw_below_drewN | apply below_drew1) | exact HB.out))).2); rintro e w10 ⟨rfl, hb⟩; refine ⟨_, rfl, ?_⟩; have n0_ := Aside0.mk (below_step (by repeat (first | (with_reducible first | exact HB.out | apply below_alloc | apply pw_below_drewN | apply below_drew1) | exact HB.out)) hb); clear HB; have HB := n0_; clear n0_; (try clear hb); (try clear hb2); (try clear hk); (try clear hi)))
      go_meet
      case rel => exact ⟨_, (true), (by first | rfl | (simp; done) | (simp [*]; done)), H', ⟨by first | omega | exact Nat.le_refl _⟩, ⟨by repeat (first | (with_reducible first | exact HB.out | apply below_alloc | apply pw_below_drewN | apply below_drew1) | exact HB.out)⟩⟩
  case rest =>
    clear HC3
    try clear c1
    try clear p2
    try clear c5
    try clear c7
    obtain ⟨kq, x18_2, rfl, HA, HJ2, HB⟩ := hcut
    cases kq with
    | zero => exact absurd HA.out (by simp [doorkeeperlaw22_AclOwn.j0])
    | succ kj2 =>
      have H := HA.out
      clear HA
      simp only [doorkeeperlaw22_AclOwn.j0] at H
      by_cases c11 : x18_2 = true
      · subst c11
        have H1 : ((doorkeeperlaw22_awake.f).bind fun t216 => (some t216)) = some r := by rw [if_pos rfl] at H; exact H
        clear H
        have H := H1
        clear H1
        replace H := Option.bind_eq_some_iff.mp H
        obtain ⟨t216, A120, H⟩ := H
        replace H : (some t216) = some r := H
        have A12 := Aside0.mk A120
        clear A120
        obtain rfl := Option.some.inj H
        go_wp2_with (first | ((with_reducible refine gate_callee (f := 12) rfl ?_); refine goesL_ (some 19) rfl rfl Tryd.func12 (by kernel_rfl) rfl #[] rfl (by (try simp only [List.map_toArray, List.map_cons, List.map_nil]); first | done | rfl | (simp only [List.length_drop, List.length_take]; rfl)) ?_; (with_reducible refine (doorkeeperlaw22_awake.calls  t216 _ A12.out ?sideL).mono ?_); (case sideL => first | exact HL.out.below (by repeat (first | (with_reducible first | exact HB.out | apply below_alloc | apply pw_below_drewN | apply below_drew1) | exact HB.out)) | exact (HL.out.below (by repeat (first | (with_reducible first | exact HB.out | apply below_alloc | apply pw_below_drewN | apply below_drew1) | exact HB.out))).1 | exact (HL.out.below (by repeat (first | (with_reducible first | exact HB.out | apply below_alloc | apply pw_below_drewN | apply below_drew1) | exact HB.out))).2); rintro e w13 ⟨rfl, hb⟩; refine ⟨_, rfl, ?_⟩; have n0_ := Aside0.mk (below_step (by repeat (first | (with_reducible first | exact HB.out | apply below_alloc | apply pw_below_drewN | apply below_drew1) | exact HB.out)) hb); clear HB; have HB := n0_; clear n0_; (try clear hb); (try clear hb2); (try clear hk); (try clear hi)))
        go_ret
        exact ⟨by first | rfl | (simp [errW_none, errW_some] <;> rfl) | (simp [*, errW_none, errW_some] <;> rfl), by repeat (first | (with_reducible first | exact HB.out | apply below_alloc | apply pw_below_drewN | apply below_drew1) | exact HB.out)⟩
      · replace c11 := Bool.eq_false_iff.mpr c11
        subst c11
        have H1 : (doorkeeperlaw22_AclOwn.l0 kj2 l0 l1 0) = some r := by rw [if_neg (show ¬ (false = true) by decide)] at H; exact H
        clear H
        have H := H1
        clear H1
        have H' := Aside0.mk H
        clear H
        go_wp2
        go_loopg [5] kj2 (fun kq v5 w' => ∃ (x5_2 : Int), v5 = .int .i64 x5_2 ∧ Aside0 (doorkeeperlaw22_AclOwn.l0 kq l0 l1 x5_2 = some r) ∧ Aside0 (kq ≤ kj2) ∧ Aside0 (Below w.heap.size w w'))
        case atStart => exact ⟨(0), (by first | rfl | (simp; done) | (simp [*]; done)), H', ⟨Nat.le_refl _⟩, ⟨by repeat (first | (with_reducible first | exact HB.out | apply below_alloc | apply pw_below_drewN | apply below_drew1) | exact HB.out)⟩⟩
        case round =>
          clear H'
          try clear c1
          try clear p2
          try clear c5
          try clear c7
          try clear c11
          try clear c12
          try clear p2
          obtain ⟨x5_2, rfl, HA, HK2, HB⟩ := hrel
          cases gk with
          | zero => exact absurd HA.out (by simp [doorkeeperlaw22_AclOwn.l0])
          | succ k2 =>
            have H := HA.out
            clear HA
            simp only [doorkeeperlaw22_AclOwn.l0] at H
            by_cases c14 : x5_2 < (l0.length : Int)
            · rw [if_pos c14] at H
              have c14b0 : decide (x5_2 < (l0.length : Int)) = true := decide_eq_true c14
              clear c14
              by_cases c15 : 0 ≤ x5_2
              · rw [if_pos c15] at H
                have c15b0 : decide (0 ≤ x5_2) = true := decide_eq_true c15
                clear c15
                have HC16 := Aside0.mk H
                clear H
                have p217 : 0 ≤ (x5_2 : Int) := of_decide_eq_true (by first | (with_reducible assumption) | assumption)
                have q217 : x5_2 < (l0.length : Int) := of_decide_eq_true (by first | (with_reducible assumption) | assumption)
                obtain ⟨ad217, A217_0, c217_0, A217_1, c217_1, e217, hx217_0, hx217_1, hx217_2, hx217_3, hl217_0, hi217_0, hl217_1, hi217_1⟩ := at_T30 HR0.out x5_2 p217 q217
                cases e217
                replace hx217_0 := (HB.out.cell (World.block_lt_of_cell? w _ hx217_0)).trans hx217_0
                replace hx217_1 := (HB.out.cell (World.block_lt_of_cell? w _ hx217_1)).trans hx217_1
                replace hx217_2 := (HB.out.cell (World.block_lt_of_cell? w _ hx217_2)).trans hx217_2
                replace hx217_3 := (HB.out.cell (World.block_lt_of_cell? w _ hx217_3)).trans hx217_3
                have HR217_0 := Aside0.mk hi217_0
                have HC217_0 := Aside0.mk hl217_0
                clear hi217_0 hl217_0
                have HR217_1 := Aside0.mk hi217_1
                have HC217_1 := Aside0.mk hl217_1
                clear hi217_1 hl217_1
                replace p217 := eq_true p217
                replace q217 := eq_true q217
                go_upto_region 7 with (fail)
                go_cut [47] (fun v47 wc => ∃ (kq : Nat) (x47_15 : Bool), v47 = .bool x47_15 ∧ Aside0 (doorkeeperlaw22_AclOwn.j2 kq l0 l1 x5_2 ((rd_T30 l0 x5_2).f0) x47_15 = some r) ∧ Aside0 (kq ≤ k2) ∧ Aside0 (Below w.heap.size w wc))
                case first =>
                  have H := HC16.out
                  clear HC16
                  replace H := Option.bind_eq_some_iff.mp H
                  obtain ⟨⟨t218, t221, t224, t225⟩, A170, H⟩ := H
                  replace H : ((doorkeeperref09_Texts.f k2 t218 ((rd_T30 l0 x5_2).f0)).bind fun t226 => (if t226 = true then ((acl_Match.f k2 l0 ((rd_T30 l0 x5_2).f0)).bind fun bt227 => ((doorkeeperref22_Match.f k2 l0 ((rd_T30 l0 x5_2).f0)).bind fun bt235 => ((doorkeeperref20_SameRule.f k2 bt227.1 bt227.2.1 bt227.2.2.1 bt227.2.2.2 bt235.1 bt235.2.1 bt235.2.2.1 bt235.2.2.2).bind fun t243 => (doorkeeperlaw22_AclOwn.j2 k2 l0 l1 x5_2 ((rd_T30 l0 x5_2).f0) (!t243))))) else (doorkeeperlaw22_AclOwn.j2 k2 l0 l1 x5_2 ((rd_T30 l0 x5_2).f0) true))) = some r := H
                  have A17 := Aside0.mk A170
                  clear A170
                  replace H := Option.bind_eq_some_iff.mp H
                  obtain ⟨t226, A180, H⟩ := H
                  replace H : (if t226 = true then ((acl_Match.f k2 l0 ((rd_T30 l0 x5_2).f0)).bind fun bt227 => ((doorkeeperref22_Match.f k2 l0 ((rd_T30 l0 x5_2).f0)).bind fun bt235 => ((doorkeeperref20_SameRule.f k2 bt227.1 bt227.2.1 bt227.2.2.1 bt227.2.2.2 bt235.1 bt235.2.1 bt235.2.2.1 bt235.2.2.2).bind fun t243 => (doorkeeperlaw22_AclOwn.j2 k2 l0 l1 x5_2 ((rd_T30 l0 x5_2).f0) (!t243))))) else (doorkeeperlaw22_AclOwn.j2 k2 l0 l1 x5_2 ((rd_T30 l0 x5_2).f0) true)) = some r := H
                  have A18 := Aside0.mk A180
                  clear A180
                  by_cases c19 : t226 = true
                  · subst c19
                    have H1 : ((acl_Match.f k2 l0 ((rd_T30 l0 x5_2).f0)).bind fun bt227 => ((doorkeeperref22_Match.f k2 l0 ((rd_T30 l0 x5_2).f0)).bind fun bt235 => ((doorkeeperref20_SameRule.f k2 bt227.1 bt227.2.1 bt227.2.2.1 bt227.2.2.2 bt235.1 bt235.2.1 bt235.2.2.1 bt235.2.2.2).bind fun t243 => (doorkeeperlaw22_AclOwn.j2 k2 l0 l1 x5_2 ((rd_T30 l0 x5_2).f0) (!t243))))) = some r := by rw [if_pos rfl] at H; exact H
                    clear H
                    have H := H1
                    clear H1
                    replace H := Option.bind_eq_some_iff.mp H
                    obtain ⟨⟨t227, t230, t233, t234⟩, A200, H⟩ := H
                    replace H : ((doorkeeperref22_Match.f k2 l0 ((rd_T30 l0 x5_2).f0)).bind fun bt235 => ((doorkeeperref20_SameRule.f k2 t227 t230 t233 t234 bt235.1 bt235.2.1 bt235.2.2.1 bt235.2.2.2).bind fun t243 => (doorkeeperlaw22_AclOwn.j2 k2 l0 l1 x5_2 ((rd_T30 l0 x5_2).f0) (!t243)))) = some r := H
                    have A20 := Aside0.mk A200
                    clear A200
                    replace H := Option.bind_eq_some_iff.mp H
                    obtain ⟨⟨t235, t238, t241, t242⟩, A210, H⟩ := H
                    replace H : ((doorkeeperref20_SameRule.f k2 t227 t230 t233 t234 t235 t238 t241 t242).bind fun t243 => (doorkeeperlaw22_AclOwn.j2 k2 l0 l1 x5_2 ((rd_T30 l0 x5_2).f0) (!t243))) = some r := H
                    have A21 := Aside0.mk A210
                    clear A210
                    replace H := Option.bind_eq_some_iff.mp H
                    obtain ⟨t243, A220, H⟩ := H
                    replace H : (doorkeeperlaw22_AclOwn.j2 k2 l0 l1 x5_2 ((rd_T30 l0 x5_2).f0) (!t243)) = some r := H
                    have A22 := Aside0.mk A220
                    clear A220
                    have H' := Aside0.mk H
                    clear H
                    go_wp2_with (first | ((with_reducible refine gate_callee (f := 16) rfl ?_); refine goesL_ (some 33) rfl rfl Tryd.func16 (by kernel_rfl) rfl #[.slice (some ad217) l0.length c0, .slice A217_0 ((rd_T30 l0 x5_2).f0).length c217_0] rfl (by (try simp only [List.map_toArray, List.map_cons, List.map_nil]); first | done | rfl | (simp only [List.length_drop, List.length_take]; rfl)) ?_; (with_reducible refine (acl_Match.calls k2 (fun k_ => k_ < w.heap.size) _ _ l0 _ _ ((rd_T30 l0 x5_2).f0) t218 t221 t224 t225 _ ?side1 ?side2 ?side3 A17.out).mono ?_); (case side1 => exact Kd.V_mk HC0.out (Kd.F_below (Kd.C_F k30_heap HR0.out) (by repeat (first | (with_reducible first | exact HB.out | apply below_alloc | apply pw_below_drewN | apply below_drew1) | exact HB.out)))); (case side2 => repeat (first | exact (Kd.C_below HR217_0.out HB.out) | (with_reducible refine Kd.C_alloc ?_ _) | (with_reducible refine Kd.C_drewN ?_ _) | (with_reducible refine Kd.C_drew ?_))); (case side3 => exact HC217_0.out); rintro e w23 ⟨v219, v222, rfl, ho0, ho1, hb⟩; refine ⟨_, rfl, ?_⟩; have n0_ := Aside0.mk (Kd.V_lower (Kd.V_mono (ok' := fun k_ => True) ho0 (fun k_ hk_ => trivial)) (below_size (by repeat (first | (with_reducible first | exact HB.out | apply below_alloc | apply pw_below_drewN | apply below_drew1) | exact HB.out)))); have n1_ := Aside0.mk (Kd.V_lower (Kd.V_mono (ok' := fun k_ => True) ho1 (fun k_ hk_ => trivial)) (below_size (by repeat (first | (with_reducible first | exact HB.out | apply below_alloc | apply pw_below_drewN | apply below_drew1) | exact HB.out)))); have n2_ := Aside0.mk (below_step (by repeat (first | (with_reducible first | exact HB.out | apply below_alloc | apply pw_below_drewN | apply below_drew1) | exact HB.out)) hb); clear HB; have HO220 := n0_; have HO223 := n1_; have HB := n2_; clear n0_ n1_ n2_; (try clear hb); (try clear hb2); (try clear hk); (try clear hi); (try clear ho0); (try clear ho1); obtain ⟨Ao24, co24, eo24⟩ := Kd.V_slice HO220.out; subst eo24) | ((with_reducible refine gate_callee (f := 22) rfl ?_); refine goesL_ (some 36) rfl rfl Tryd.func22 (by kernel_rfl) rfl #[.slice Ao24 t218.length co24, .slice A217_0 ((rd_T30 l0 x5_2).f0).length c217_0] rfl (by (try simp only [List.map_toArray, List.map_cons, List.map_nil]); first | done | rfl | (simp only [List.length_drop, List.length_take]; rfl)) ?_; (with_reducible refine (doorkeeperref09_Texts.calls k2 _ _ t218 _ _ ((rd_T30 l0 x5_2).f0) true _ ?side1 ?side2 ?side3 ?side4 A18.out).mono ?_); (case side1 => repeat (first | exact (Kd.V_reads' HO220.out).2.2 | (with_reducible refine Kd.C_alloc ?_ _) | (with_reducible refine Kd.C_drewN ?_ _) | (with_reducible refine Kd.C_drew ?_))); (case side2 => exact (Kd.V_reads' HO220.out).2.1); (case side3 => repeat (first | exact (Kd.C_below HR217_0.out HB.out) | (with_reducible refine Kd.C_alloc ?_ _) | (with_reducible refine Kd.C_drewN ?_ _) | (with_reducible refine Kd.C_drew ?_))); (case side4 => exact HC217_0.out); rintro e w' ⟨rfl, ⟨nd, rfl⟩⟩; refine ⟨_, rfl, ?_⟩) | (go_at_call 16; (with_reducible refine (acl_Match.calls k2 (fun k_ => k_ < w.heap.size) _ _ l0 _ _ ((rd_T30 l0 x5_2).f0) t227 t230 t233 t234 _ ?side1 ?side2 ?side3 A20.out).mono ?_); (case side1 => exact Kd.V_mk HC0.out (Kd.F_below (Kd.C_F k30_heap HR0.out) (by repeat (first | (with_reducible first | exact HB.out | apply below_alloc | apply pw_below_drewN | apply below_drew1) | exact HB.out)))); (case side2 => repeat (first | exact (Kd.C_below HR217_0.out (by repeat (first | (with_reducible first | exact HB.out | apply below_alloc | apply pw_below_drewN | apply below_drew1) | exact HB.out))) | (with_reducible refine Kd.C_alloc ?_ _) | (with_reducible refine Kd.C_drewN ?_ _) | (with_reducible refine Kd.C_drew ?_))); (case side3 => exact HC217_0.out); rintro e w25 ⟨v228, v231, rfl, ho0, ho1, hb⟩; have n0_ := Aside0.mk (Kd.V_below (by (with_reducible repeat (first | apply Kd.V_alloc | apply Kd.V_drewN | apply Kd.V_drew)); exact HO220.out) hb); have n1_ := Aside0.mk (Kd.V_below (by (with_reducible repeat (first | apply Kd.V_alloc | apply Kd.V_drewN | apply Kd.V_drew)); exact HO223.out) hb); have n2_ := Aside0.mk (Kd.V_lower (Kd.V_mono (ok' := fun k_ => True) ho0 (fun k_ hk_ => trivial)) (below_size (by repeat (first | (with_reducible first | exact HB.out | apply below_alloc | apply pw_below_drewN | apply below_drew1) | exact HB.out)))); have n3_ := Aside0.mk (Kd.V_lower (Kd.V_mono (ok' := fun k_ => True) ho1 (fun k_ hk_ => trivial)) (below_size (by repeat (first | (with_reducible first | exact HB.out | apply below_alloc | apply pw_below_drewN | apply below_drew1) | exact HB.out)))); have n4_ := Aside0.mk (below_step (by repeat (first | (with_reducible first | exact HB.out | apply below_alloc | apply pw_below_drewN | apply below_drew1) | exact HB.out)) hb); clear HO220; clear HO223; clear HB; have HO220 := n0_; have HO223 := n1_; have HO229 := n2_; have HO232 := n3_; have HB := n4_; clear n0_ n1_ n2_ n3_ n4_; (try clear hb); (try clear hb2); (try clear hk); (try clear hi); (try clear ho0); (try clear ho1)) | (go_at_call 17; (with_reducible refine (doorkeeperref22_Match.calls k2 (fun k_ => k_ < w.heap.size) _ _ l0 _ _ ((rd_T30 l0 x5_2).f0) t235 t238 t241 t242 _ ?side1 ?side2 ?side3 A21.out).mono ?_); (case side1 => exact Kd.V_mk HC0.out (Kd.F_below (Kd.C_F k30_heap HR0.out) (by repeat (first | (with_reducible first | exact HB.out | apply below_alloc | apply pw_below_drewN | apply below_drew1) | exact HB.out)))); (case side2 => repeat (first | exact (Kd.C_below HR217_0.out HB.out) | (with_reducible refine Kd.C_alloc ?_ _) | (with_reducible refine Kd.C_drewN ?_ _) | (with_reducible refine Kd.C_drew ?_))); (case side3 => exact HC217_0.out); rintro e w26 ⟨v236, v239, rfl, ho0, ho1, hb⟩; have n0_ := Aside0.mk (Kd.V_below (by (with_reducible repeat (first | apply Kd.V_alloc | apply Kd.V_drewN | apply Kd.V_drew)); exact HO220.out) hb); have n1_ := Aside0.mk (Kd.V_below (by (with_reducible repeat (first | apply Kd.V_alloc | apply Kd.V_drewN | apply Kd.V_drew)); exact HO223.out) hb); have n2_ := Aside0.mk (Kd.V_below (by (with_reducible repeat (first | apply Kd.V_alloc | apply Kd.V_drewN | apply Kd.V_drew)); exact HO229.out) hb); have n3_ := Aside0.mk (Kd.V_below (by (with_reducible repeat (first | apply Kd.V_alloc | apply Kd.V_drewN | apply Kd.V_drew)); exact HO232.out) hb); have n4_ := Aside0.mk (Kd.V_lower (Kd.V_mono (ok' := fun k_ => True) ho0 (fun k_ hk_ => trivial)) (below_size (by repeat (first | (with_reducible first | exact HB.out | apply below_alloc | apply pw_below_drewN | apply below_drew1) | exact HB.out)))); have n5_ := Aside0.mk (Kd.V_lower (Kd.V_mono (ok' := fun k_ => True) ho1 (fun k_ hk_ => trivial)) (below_size (by repeat (first | (with_reducible first | exact HB.out | apply below_alloc | apply pw_below_drewN | apply below_drew1) | exact HB.out)))); have n6_ := Aside0.mk (below_step (by repeat (first | (with_reducible first | exact HB.out | apply below_alloc | apply pw_below_drewN | apply below_drew1) | exact HB.out)) hb); clear HO220; clear HO223; clear HO229; clear HO232; clear HB; have HO220 := n0_; have HO223 := n1_; have HO229 := n2_; have HO232 := n3_; have HO237 := n4_; have HO240 := n5_; have HB := n6_; clear n0_ n1_ n2_ n3_ n4_ n5_ n6_; (try clear hb); (try clear hb2); (try clear hk); (try clear hi); (try clear ho0); (try clear ho1); obtain ⟨Ao27, co27, eo27⟩ := Kd.V_slice HO229.out; subst eo27; obtain ⟨Ao28, co28, eo28⟩ := Kd.V_slice HO232.out; subst eo28; obtain ⟨Ao29, co29, eo29⟩ := Kd.V_slice HO237.out; subst eo29; obtain ⟨Ao30, co30, eo30⟩ := Kd.V_slice HO240.out; subst eo30) | (go_at_call 15; (with_reducible refine (doorkeeperref20_SameRule.calls k2 _ _ t227 _ _ t230 t233 t234 _ _ t235 _ _ t238 t241 t242 t243 _ ?side1 ?side2 ?side3 ?side4 ?side5 ?side6 ?side7 ?side8 A22.out).mono ?_); (case side1 => repeat (first | exact (Kd.V_reads' HO229.out).2.2 | (with_reducible refine Kd.C_alloc ?_ _) | (with_reducible refine Kd.C_drewN ?_ _) | (with_reducible refine Kd.C_drew ?_))); (case side2 => exact (Kd.V_reads' HO229.out).2.1); (case side3 => repeat (first | exact (Kd.V_reads' HO232.out).2.2 | (with_reducible refine Kd.C_alloc ?_ _) | (with_reducible refine Kd.C_drewN ?_ _) | (with_reducible refine Kd.C_drew ?_))); (case side4 => exact (Kd.V_reads' HO232.out).2.1); (case side5 => repeat (first | exact (Kd.V_reads' HO237.out).2.2 | (with_reducible refine Kd.C_alloc ?_ _) | (with_reducible refine Kd.C_drewN ?_ _) | (with_reducible refine Kd.C_drew ?_))); (case side6 => exact (Kd.V_reads' HO237.out).2.1); (case side7 => repeat (first | exact (Kd.V_reads' HO240.out).2.2 | (with_reducible refine Kd.C_alloc ?_ _) | (with_reducible refine Kd.C_drewN ?_ _) | (with_reducible refine Kd.C_drew ?_))); (case side8 => exact (Kd.V_reads' HO240.out).2.1); rintro e w31 ⟨rfl, hb⟩; have n0_ := Aside0.mk (Kd.V_below (by (with_reducible repeat (first | apply Kd.V_alloc | apply Kd.V_drewN | apply Kd.V_drew)); exact HO220.out) hb); have n1_ := Aside0.mk (Kd.V_below (by (with_reducible repeat (first | apply Kd.V_alloc | apply Kd.V_drewN | apply Kd.V_drew)); exact HO223.out) hb); have n2_ := Aside0.mk (Kd.V_below (by (with_reducible repeat (first | apply Kd.V_alloc | apply Kd.V_drewN | apply Kd.V_drew)); exact HO229.out) hb); have n3_ := Aside0.mk (Kd.V_below (by (with_reducible repeat (first | apply Kd.V_alloc | apply Kd.V_drewN | apply Kd.V_drew)); exact HO232.out) hb); have n4_ := Aside0.mk (Kd.V_below (by (with_reducible repeat (first | apply Kd.V_alloc | apply Kd.V_drewN | apply Kd.V_drew)); exact HO237.out) hb); have n5_ := Aside0.mk (Kd.V_below (by (with_reducible repeat (first | apply Kd.V_alloc | apply Kd.V_drewN | apply Kd.V_drew)); exact HO240.out) hb); have n6_ := Aside0.mk (below_step (by repeat (first | (with_reducible first | exact HB.out | apply below_alloc | apply pw_below_drewN | apply below_drew1) | exact HB.out)) hb); clear HO220; clear HO223; clear HO229; clear HO232; clear HO237; clear HO240; clear HB; have HO220 := n0_; have HO223 := n1_; have HO229 := n2_; have HO232 := n3_; have HO237 := n4_; have HO240 := n5_; have HB := n6_; clear n0_ n1_ n2_ n3_ n4_ n5_ n6_; (try clear hb); (try clear hb2); (try clear hk); (try clear hi)))
                    go_meet
                    case rel => exact ⟨_, (!t243), (by first | rfl | (simp; done) | (simp [*]; done)), H', ⟨by have := HJ2.out; have := HK2.out; first | omega | exact Nat.le_refl _⟩, ⟨by repeat (first | (with_reducible first | exact HB.out | apply below_alloc | apply pw_below_drewN | apply below_drew1) | exact HB.out)⟩⟩
                  · replace c19 := Bool.eq_false_iff.mpr c19
                    subst c19
                    have H1 : (doorkeeperlaw22_AclOwn.j2 k2 l0 l1 x5_2 ((rd_T30 l0 x5_2).f0) true) = some r := by rw [if_neg (show ¬ (false = true) by decide)] at H; exact H
                    clear H
                    have H := H1
                    clear H1
                    have H' := Aside0.mk H
                    clear H
                    go_wp2_with (first | ((with_reducible refine gate_callee (f := 16) rfl ?_); refine goesL_ (some 33) rfl rfl Tryd.func16 (by kernel_rfl) rfl #[.slice (some ad217) l0.length c0, .slice A217_0 ((rd_T30 l0 x5_2).f0).length c217_0] rfl (by (try simp only [List.map_toArray, List.map_cons, List.map_nil]); first | done | rfl | (simp only [List.length_drop, List.length_take]; rfl)) ?_; (with_reducible refine (acl_Match.calls k2 (fun k_ => k_ < w.heap.size) _ _ l0 _ _ ((rd_T30 l0 x5_2).f0) t218 t221 t224 t225 _ ?side1 ?side2 ?side3 A17.out).mono ?_); (case side1 => exact Kd.V_mk HC0.out (Kd.F_below (Kd.C_F k30_heap HR0.out) (by repeat (first | (with_reducible first | exact HB.out | apply below_alloc | apply pw_below_drewN | apply below_drew1) | exact HB.out)))); (case side2 => repeat (first | exact (Kd.C_below HR217_0.out HB.out) | (with_reducible refine Kd.C_alloc ?_ _) | (with_reducible refine Kd.C_drewN ?_ _) | (with_reducible refine Kd.C_drew ?_))); (case side3 => exact HC217_0.out); rintro e w32 ⟨v219, v222, rfl, ho0, ho1, hb⟩; refine ⟨_, rfl, ?_⟩; have n0_ := Aside0.mk (Kd.V_lower (Kd.V_mono (ok' := fun k_ => True) ho0 (fun k_ hk_ => trivial)) (below_size (by repeat (first | (with_reducible first | exact HB.out | apply below_alloc | apply pw_below_drewN | apply below_drew1) | exact HB.out)))); have n1_ := Aside0.mk (Kd.V_lower (Kd.V_mono (ok' := fun k_ => True) ho1 (fun k_ hk_ => trivial)) (below_size (by repeat (first | (with_reducible first | exact HB.out | apply below_alloc | apply pw_below_drewN | apply below_drew1) | exact HB.out)))); have n2_ := Aside0.mk (below_step (by repeat (first | (with_reducible first | exact HB.out | apply below_alloc | apply pw_below_drewN | apply below_drew1) | exact HB.out)) hb); clear HB; have HO220 := n0_; have HO223 := n1_; have HB := n2_; clear n0_ n1_ n2_; (try clear hb); (try clear hb2); (try clear hk); (try clear hi); (try clear ho0); (try clear ho1); obtain ⟨Ao33, co33, eo33⟩ := Kd.V_slice HO220.out; subst eo33) | ((with_reducible refine gate_callee (f := 22) rfl ?_); refine goesL_ (some 36) rfl rfl Tryd.func22 (by kernel_rfl) rfl #[.slice Ao33 t218.length co33, .slice A217_0 ((rd_T30 l0 x5_2).f0).length c217_0] rfl (by (try simp only [List.map_toArray, List.map_cons, List.map_nil]); first | done | rfl | (simp only [List.length_drop, List.length_take]; rfl)) ?_; (with_reducible refine (doorkeeperref09_Texts.calls k2 _ _ t218 _ _ ((rd_T30 l0 x5_2).f0) false _ ?side1 ?side2 ?side3 ?side4 A18.out).mono ?_); (case side1 => repeat (first | exact (Kd.V_reads' HO220.out).2.2 | (with_reducible refine Kd.C_alloc ?_ _) | (with_reducible refine Kd.C_drewN ?_ _) | (with_reducible refine Kd.C_drew ?_))); (case side2 => exact (Kd.V_reads' HO220.out).2.1); (case side3 => repeat (first | exact (Kd.C_below HR217_0.out HB.out) | (with_reducible refine Kd.C_alloc ?_ _) | (with_reducible refine Kd.C_drewN ?_ _) | (with_reducible refine Kd.C_drew ?_))); (case side4 => exact HC217_0.out); rintro e w' ⟨rfl, ⟨nd, rfl⟩⟩; refine ⟨_, rfl, ?_⟩))
                    go_meet
                    case rel => exact ⟨_, (true), (by first | rfl | (simp; done) | (simp [*]; done)), H', ⟨by have := HJ2.out; have := HK2.out; first | omega | exact Nat.le_refl _⟩, ⟨by repeat (first | (with_reducible first | exact HB.out | apply below_alloc | apply pw_below_drewN | apply below_drew1) | exact HB.out)⟩⟩
                case rest =>
                  clear HC16
                  try clear c1
                  try clear c2
                  try clear p2
                  try clear q2
                  try clear hx2
                  try clear c5
                  try clear c7
                  try clear c11
                  try clear c12
                  try clear c14
                  try clear c14b0
                  try clear c15
                  try clear c15b0
                  try clear c16
                  try clear c19
                  try clear c21
                  try clear p21
                  try clear q21
                  try clear hx21
                  try clear c22
                  try clear hx217_0
                  try clear hx217_1
                  try clear hx217_2
                  try clear hx217_3
                  try clear p2
                  try clear p217
                  try clear q217
                  obtain ⟨kq, x47_15, rfl, HA, HJ15, HB⟩ := hcut
                  cases kq with
                  | zero => exact absurd HA.out (by simp [doorkeeperlaw22_AclOwn.j2])
                  | succ kj15 =>
                    have H := HA.out
                    clear HA
                    simp only [doorkeeperlaw22_AclOwn.j2] at H
                    by_cases c34 : x47_15 = true
                    · subst c34
                      have H1 : (some false) = some r := by rw [if_pos rfl] at H; exact H
                      clear H
                      have H := H1
                      clear H1
                      obtain rfl := Option.some.inj H
                      go_wp2
                      go_ret
                      exact ⟨by first | rfl | (simp [errW_none, errW_some] <;> rfl) | (simp [*, errW_none, errW_some] <;> rfl), by repeat (first | (with_reducible first | exact HB.out | apply below_alloc | apply pw_below_drewN | apply below_drew1) | exact HB.out)⟩
                    · replace c34 := Bool.eq_false_iff.mpr c34
                      subst c34
                      have H1 : ((some (([] : List ByteArray) : List ByteArray)).bind fun y244 => (if y244.length + ((rd_T30 l0 x5_2).f0).length < 8796093022208 then ((some (y244 ++ ((rd_T30 l0 x5_2).f0) : List ByteArray)).bind fun y247 => (if y247.length + l1.length < 8796093022208 then ((acl_Match.f kj15 l0 (y247 ++ l1)).bind fun bt253 => (if (bt253.1.length : Int) < (((rd_T30 l0 x5_2).f0).length : Int) then (some false) else (doorkeeperlaw22_AclOwn.l0 kj15 l0 l1 (wrap64 (x5_2 + 1))))) else (none))) else (none))) = some r := by rw [if_neg (show ¬ (false = true) by decide)] at H; exact H
                      clear H
                      have H := H1
                      clear H1
                      obtain ⟨y244, hy244⟩ : ∃ y_ : List ByteArray, y_ = (([] : List ByteArray)) := ⟨_, rfl⟩
                      replace H : (if y244.length + ((rd_T30 l0 x5_2).f0).length < 8796093022208 then ((some (y244 ++ ((rd_T30 l0 x5_2).f0) : List ByteArray)).bind fun y247 => (if y247.length + l1.length < 8796093022208 then ((acl_Match.f kj15 l0 (y247 ++ l1)).bind fun bt253 => (if (bt253.1.length : Int) < (((rd_T30 l0 x5_2).f0).length : Int) then (some false) else (doorkeeperlaw22_AclOwn.l0 kj15 l0 l1 (wrap64 (x5_2 + 1))))) else (none))) else (none)) = some r := by first | (rw [hy244]; with_reducible exact H) | (have H2_ := (Option.bind_some _ _).symm.trans H; rw [hy244]; with_reducible exact H2_) | (have H2_ := (Option.bind_some _ _).symm.trans H; with_reducible exact H2_) | with_reducible exact H | (rw [hy244]; exact H) | exact H
                      have Ny244 := Aside0.mk hy244
                      clear hy244
                      by_cases c35 : y244.length + ((rd_T30 l0 x5_2).f0).length < 8796093022208
                      · rw [if_pos c35] at H
                        have LMc35 := Aside0.mk c35
                        clear c35
                        obtain ⟨y247, hy247⟩ : ∃ y_ : List ByteArray, y_ = (y244 ++ ((rd_T30 l0 x5_2).f0)) := ⟨_, rfl⟩
                        replace H : (if y247.length + l1.length < 8796093022208 then ((acl_Match.f kj15 l0 (y247 ++ l1)).bind fun bt253 => (if (bt253.1.length : Int) < (((rd_T30 l0 x5_2).f0).length : Int) then (some false) else (doorkeeperlaw22_AclOwn.l0 kj15 l0 l1 (wrap64 (x5_2 + 1))))) else (none)) = some r := by first | (rw [hy247]; with_reducible exact H) | (have H2_ := (Option.bind_some _ _).symm.trans H; rw [hy247]; with_reducible exact H2_) | (have H2_ := (Option.bind_some _ _).symm.trans H; with_reducible exact H2_) | with_reducible exact H | (rw [hy247]; exact H) | exact H
                        have Ny247 := Aside0.mk hy247
                        clear hy247
                        by_cases c36 : y247.length + l1.length < 8796093022208
                        · rw [if_pos c36] at H
                          have LMc36 := Aside0.mk c36
                          clear c36
                          obtain ⟨y250, hy250⟩ : ∃ y_ : List ByteArray, y_ = (y247 ++ l1) := ⟨_, rfl⟩
                          replace H : ((acl_Match.f kj15 l0 y250).bind fun bt253 => (if (bt253.1.length : Int) < (((rd_T30 l0 x5_2).f0).length : Int) then (some false) else (doorkeeperlaw22_AclOwn.l0 kj15 l0 l1 (wrap64 (x5_2 + 1))))) = some r := by first | (rw [hy250]; with_reducible exact H) | (have H2_ := (Option.bind_some _ _).symm.trans H; rw [hy250]; with_reducible exact H2_) | (have H2_ := (Option.bind_some _ _).symm.trans H; with_reducible exact H2_) | with_reducible exact H | (rw [hy250]; exact H) | exact H
                          have Ny250 := Aside0.mk hy250
                          clear hy250
                          replace H := Option.bind_eq_some_iff.mp H
                          obtain ⟨⟨t253, t256, t259, t260⟩, A370, H⟩ := H
                          replace H : (if (t253.length : Int) < (((rd_T30 l0 x5_2).f0).length : Int) then (some false) else (doorkeeperlaw22_AclOwn.l0 kj15 l0 l1 (wrap64 (x5_2 + 1)))) = some r := H
                          have A37 := Aside0.mk A370
                          clear A370
                          by_cases c38 : (t253.length : Int) < (((rd_T30 l0 x5_2).f0).length : Int)
                          · rw [if_pos c38] at H
                            have c38b0 : decide ((t253.length : Int) < (((rd_T30 l0 x5_2).f0).length : Int)) = true := decide_eq_true c38
                            have c38b1 : decide (t253.length < ((rd_T30 l0 x5_2).f0).length) = true := decide_eq_true (Int.ofNat_lt.mp c38)
                            clear c38
                            obtain rfl := Option.some.inj H
                            go_wp2_with (first | ((with_reducible refine gate_dst (N := 49) rfl ?_); (try (refine gate_guard (by rfl) ?_; dsimp only)); refine Kd.R_lit Kd.string _ 9 ?hg (N := 49) ?hd (xs := ([] : List ByteArray)) (inner := []) (ok := fun _ => True) (okp := fun _ => True) ?hr ?hp (fun _ hk => hk) trivial (Below.refl _ _) (Nat.le_refl _) (by simp) ?_; (case hd => rfl); (case hg => rfl); (case hr => first | (go_simp; done) | (go_simp; rfl)); (case hp => exact (Reps.none _ _)); intro v245 w39 ho40 hb hg_ hnew_; clear hg_ hnew_; (first | rw [← Ny244.out] at ho40 | (simp only [Int.reduceToNat] at ho40; rw [← Ny244.out] at ho40)); have n0_ := Aside0.mk (Kd.R_lower ho40 (below_size (by repeat (first | (with_reducible first | exact HB.out | apply below_alloc | apply pw_below_drewN | apply below_drew1) | exact HB.out)))); have n1_ := Aside0.mk (below_step (by repeat (first | (with_reducible first | exact HB.out | apply below_alloc | apply pw_below_drewN | apply below_drew1) | exact HB.out)) hb); clear HB; have HO246 := n0_; have HB := n1_; clear n0_ n1_; clear hb ho40) | ((with_reducible refine gate_builtin (b := .append) (xs := #[.tmp 49, .tmp 50]) rfl ?_); (try (refine gate_guard (by rfl) ?_; dsimp only)); at_builtin; refine Kd.R_append_rows Kd.string (w0 := w) w.heap.size rfl (.tmp 49) (.tmp 50) 23 9 (.string ⟨#[]⟩) 16 rfl Tryd.underlying23 info9 rfl (by decide) (by omega) v245 y244 ((rd_T30 l0 x5_2).f0) _ _ _ (fun _ => True) (fun _ => False) rfl rfl ?aO ?aR (fun _ _ h => h) (fun _ h => h.elim) ?aF ?aB ?aS ?aL ?_; (case aR => repeat (first | exact (Kd.C_below HR217_0.out HB.out) | (with_reducible refine Kd.C_alloc ?_ _) | (with_reducible refine Kd.C_drewN ?_ _) | (with_reducible refine Kd.C_drew ?_))); (case aB => exact (by repeat (first | (with_reducible first | exact HB.out | apply below_alloc | apply pw_below_drewN | apply below_drew1) | exact HB.out))); (case aF => exact (fun _ _ => trivial)); (case aO => exact (by (with_reducible repeat (first | apply Kd.R_alloc | apply Kd.R_drewN | apply Kd.R_drew)); exact HO246.out)); (case aS => exact (below_size (by repeat (first | (with_reducible first | exact HB.out | apply below_alloc | apply pw_below_drewN | apply below_drew1) | exact HB.out)))); (case aL => have := LMc35.out; omega); intro v248 w41 ho hb hg hat; rw [← Ny247.out] at ho; have n0_ := Aside0.mk (hb); have n1_ := Aside0.mk (ho); clear HB; clear HO246; have HB := n0_; have HO249 := n1_; clear n0_ n1_; clear ho hb hg hat) | ((with_reducible refine gate_builtin (b := .append) (xs := #[.tmp 51, .tmp 52]) rfl ?_); (try (refine gate_guard (by rfl) ?_; dsimp only)); at_builtin; refine Kd.R_append_rows Kd.string (w0 := w) w.heap.size rfl (.tmp 51) (.tmp 52) 23 9 (.string ⟨#[]⟩) 16 rfl Tryd.underlying23 info9 rfl (by decide) (by omega) v248 y247 l1 _ _ _ (fun _ => True) (fun _ => False) rfl rfl ?aO ?aR (fun _ _ h => h) (fun _ h => h.elim) ?aF ?aB ?aS ?aL ?_; (case aR => repeat (first | exact (Kd.C_below HR1.out HB.out) | (with_reducible refine Kd.C_alloc ?_ _) | (with_reducible refine Kd.C_drewN ?_ _) | (with_reducible refine Kd.C_drew ?_))); (case aB => exact (by repeat (first | (with_reducible first | exact HB.out | apply below_alloc | apply pw_below_drewN | apply below_drew1) | exact HB.out))); (case aF => exact (fun _ _ => trivial)); (case aO => exact (by (with_reducible repeat (first | apply Kd.R_alloc | apply Kd.R_drewN | apply Kd.R_drew)); exact HO249.out)); (case aS => exact (below_size (by repeat (first | (with_reducible first | exact HB.out | apply below_alloc | apply pw_below_drewN | apply below_drew1) | exact HB.out)))); (case aL => have := LMc36.out; omega); intro v251 w42 ho hb hg hat; rw [← Ny250.out] at ho; have n0_ := Aside0.mk (hb); have n1_ := Aside0.mk (ho); clear HB; clear HO249; have HB := n0_; have HO252 := n1_; clear n0_ n1_; clear ho hb hg hat; obtain ⟨Ao43, co43, eo43⟩ := Kd.R_slice HO252.out; subst eo43) | ((with_reducible refine gate_callee (f := 16) rfl ?_); refine goesL_ (some 54) rfl rfl Tryd.func16 (by kernel_rfl) rfl #[.slice (some ad217) l0.length c0, .slice Ao43 y250.length co43] rfl (by (try simp only [List.map_toArray, List.map_cons, List.map_nil]); first | done | rfl | (simp only [List.length_drop, List.length_take]; rfl)) ?_; (with_reducible refine (acl_Match.calls kj15 (fun k_ => k_ < w.heap.size) _ _ l0 _ _ y250 t253 t256 t259 t260 _ ?side1 ?side2 ?side3 A37.out).mono ?_); (case side1 => exact Kd.V_mk HC0.out (Kd.F_below (Kd.C_F k30_heap HR0.out) (by repeat (first | (with_reducible first | exact HB.out | apply below_alloc | apply pw_below_drewN | apply below_drew1) | exact HB.out)))); (case side2 => repeat (first | exact (Kd.R_reads' HO252.out).2.2 | (with_reducible refine Kd.C_alloc ?_ _) | (with_reducible refine Kd.C_drewN ?_ _) | (with_reducible refine Kd.C_drew ?_))); (case side3 => exact (Kd.R_reads' HO252.out).2.1); rintro e w44 ⟨v254, v257, rfl, ho0, ho1, hb⟩; refine ⟨_, rfl, ?_⟩; have n0_ := Aside0.mk (Kd.R_below (by (with_reducible repeat (first | apply Kd.R_alloc | apply Kd.R_drewN | apply Kd.R_drew)); exact HO252.out) hb); have n1_ := Aside0.mk (Kd.V_lower (Kd.V_mono (ok' := fun k_ => some k_ ≠ (.slice Ao43 y250.length co43 : Value).ownBlock) ho0 (fun k_ hk_ => Or.elim hk_ (fun hs_ => fun e_ => Nat.not_le.2 hs_ (Kd.R_base HO252.out k_ e_.symm)) (fun hn_ => (Kd.fresh' (Kd.R_lt (by (with_reducible repeat (first | apply Kd.R_alloc | apply Kd.R_drewN | apply Kd.R_drew)); exact HO252.out)) k_ hn_)))) (below_size (by repeat (first | (with_reducible first | exact HB.out | apply below_alloc | apply pw_below_drewN | apply below_drew1) | exact HB.out)))); have n2_ := Aside0.mk (Kd.V_lower (Kd.V_mono (ok' := fun k_ => some k_ ≠ (.slice Ao43 y250.length co43 : Value).ownBlock) ho1 (fun k_ hk_ => Or.elim hk_ (fun hs_ => fun e_ => Nat.not_le.2 hs_ (Kd.R_base HO252.out k_ e_.symm)) (fun hn_ => (Kd.fresh' (Kd.R_lt (by (with_reducible repeat (first | apply Kd.R_alloc | apply Kd.R_drewN | apply Kd.R_drew)); exact HO252.out)) k_ hn_)))) (below_size (by repeat (first | (with_reducible first | exact HB.out | apply below_alloc | apply pw_below_drewN | apply below_drew1) | exact HB.out)))); have n3_ := Aside0.mk (below_step (by repeat (first | (with_reducible first | exact HB.out | apply below_alloc | apply pw_below_drewN | apply below_drew1) | exact HB.out)) hb); clear HO252; clear HB; have HO252 := n0_; have HO255 := n1_; have HO258 := n2_; have HB := n3_; clear n0_ n1_ n2_ n3_; (try clear hb); (try clear hb2); (try clear hk); (try clear hi); (try clear ho0); (try clear ho1); obtain ⟨Ao45, co45, eo45⟩ := Kd.V_slice HO255.out; subst eo45))
                            go_ret
                            exact ⟨by first | rfl | (simp [errW_none, errW_some] <;> rfl) | (simp [*, errW_none, errW_some] <;> rfl), by repeat (first | (with_reducible first | exact HB.out | apply below_alloc | apply pw_below_drewN | apply below_drew1) | exact HB.out)⟩
                          · rw [if_neg c38] at H
                            have c38b0 : decide ((t253.length : Int) < (((rd_T30 l0 x5_2).f0).length : Int)) = false := decide_eq_false c38
                            have c38b1 : decide (t253.length < ((rd_T30 l0 x5_2).f0).length) = false := decide_eq_false (fun h => c38 (Int.ofNat_lt.mpr h))
                            clear c38
                            have H' := Aside0.mk H
                            clear H
                            go_wp2_with (first | ((with_reducible refine gate_dst (N := 49) rfl ?_); (try (refine gate_guard (by rfl) ?_; dsimp only)); refine Kd.R_lit Kd.string _ 9 ?hg (N := 49) ?hd (xs := ([] : List ByteArray)) (inner := []) (ok := fun _ => True) (okp := fun _ => True) ?hr ?hp (fun _ hk => hk) trivial (Below.refl _ _) (Nat.le_refl _) (by simp) ?_; (case hd => rfl); (case hg => rfl); (case hr => first | (go_simp; done) | (go_simp; rfl)); (case hp => exact (Reps.none _ _)); intro v245 w46 ho47 hb hg_ hnew_; clear hg_ hnew_; (first | rw [← Ny244.out] at ho47 | (simp only [Int.reduceToNat] at ho47; rw [← Ny244.out] at ho47)); have n0_ := Aside0.mk (Kd.R_lower ho47 (below_size (by repeat (first | (with_reducible first | exact HB.out | apply below_alloc | apply pw_below_drewN | apply below_drew1) | exact HB.out)))); have n1_ := Aside0.mk (below_step (by repeat (first | (with_reducible first | exact HB.out | apply below_alloc | apply pw_below_drewN | apply below_drew1) | exact HB.out)) hb); clear HB; have HO246 := n0_; have HB := n1_; clear n0_ n1_; clear hb ho47) | ((with_reducible refine gate_builtin (b := .append) (xs := #[.tmp 49, .tmp 50]) rfl ?_); (try (refine gate_guard (by rfl) ?_; dsimp only)); at_builtin; refine Kd.R_append_rows Kd.string (w0 := w) w.heap.size rfl (.tmp 49) (.tmp 50) 23 9 (.string ⟨#[]⟩) 16 rfl Tryd.underlying23 info9 rfl (by decide) (by omega) v245 y244 ((rd_T30 l0 x5_2).f0) _ _ _ (fun _ => True) (fun _ => False) rfl rfl ?aO ?aR (fun _ _ h => h) (fun _ h => h.elim) ?aF ?aB ?aS ?aL ?_; (case aR => repeat (first | exact (Kd.C_below HR217_0.out HB.out) | (with_reducible refine Kd.C_alloc ?_ _) | (with_reducible refine Kd.C_drewN ?_ _) | (with_reducible refine Kd.C_drew ?_))); (case aB => exact (by repeat (first | (with_reducible first | exact HB.out | apply below_alloc | apply pw_below_drewN | apply below_drew1) | exact HB.out))); (case aF => exact (fun _ _ => trivial)); (case aO => exact (by (with_reducible repeat (first | apply Kd.R_alloc | apply Kd.R_drewN | apply Kd.R_drew)); exact HO246.out)); (case aS => exact (below_size (by repeat (first | (with_reducible first | exact HB.out | apply below_alloc | apply pw_below_drewN | apply below_drew1) | exact HB.out)))); (case aL => have := LMc35.out; omega); intro v248 w48 ho hb hg hat; rw [← Ny247.out] at ho; have n0_ := Aside0.mk (hb); have n1_ := Aside0.mk (ho); clear HB; clear HO246; have HB := n0_; have HO249 := n1_; clear n0_ n1_; clear ho hb hg hat) | ((with_reducible refine gate_builtin (b := .append) (xs := #[.tmp 51, .tmp 52]) rfl ?_); (try (refine gate_guard (by rfl) ?_; dsimp only)); at_builtin; refine Kd.R_append_rows Kd.string (w0 := w) w.heap.size rfl (.tmp 51) (.tmp 52) 23 9 (.string ⟨#[]⟩) 16 rfl Tryd.underlying23 info9 rfl (by decide) (by omega) v248 y247 l1 _ _ _ (fun _ => True) (fun _ => False) rfl rfl ?aO ?aR (fun _ _ h => h) (fun _ h => h.elim) ?aF ?aB ?aS ?aL ?_; (case aR => repeat (first | exact (Kd.C_below HR1.out HB.out) | (with_reducible refine Kd.C_alloc ?_ _) | (with_reducible refine Kd.C_drewN ?_ _) | (with_reducible refine Kd.C_drew ?_))); (case aB => exact (by repeat (first | (with_reducible first | exact HB.out | apply below_alloc | apply pw_below_drewN | apply below_drew1) | exact HB.out))); (case aF => exact (fun _ _ => trivial)); (case aO => exact (by (with_reducible repeat (first | apply Kd.R_alloc | apply Kd.R_drewN | apply Kd.R_drew)); exact HO249.out)); (case aS => exact (below_size (by repeat (first | (with_reducible first | exact HB.out | apply below_alloc | apply pw_below_drewN | apply below_drew1) | exact HB.out)))); (case aL => have := LMc36.out; omega); intro v251 w49 ho hb hg hat; rw [← Ny250.out] at ho; have n0_ := Aside0.mk (hb); have n1_ := Aside0.mk (ho); clear HB; clear HO249; have HB := n0_; have HO252 := n1_; clear n0_ n1_; clear ho hb hg hat; obtain ⟨Ao50, co50, eo50⟩ := Kd.R_slice HO252.out; subst eo50) | ((with_reducible refine gate_callee (f := 16) rfl ?_); refine goesL_ (some 54) rfl rfl Tryd.func16 (by kernel_rfl) rfl #[.slice (some ad217) l0.length c0, .slice Ao50 y250.length co50] rfl (by (try simp only [List.map_toArray, List.map_cons, List.map_nil]); first | done | rfl | (simp only [List.length_drop, List.length_take]; rfl)) ?_; (with_reducible refine (acl_Match.calls kj15 (fun k_ => k_ < w.heap.size) _ _ l0 _ _ y250 t253 t256 t259 t260 _ ?side1 ?side2 ?side3 A37.out).mono ?_); (case side1 => exact Kd.V_mk HC0.out (Kd.F_below (Kd.C_F k30_heap HR0.out) (by repeat (first | (with_reducible first | exact HB.out | apply below_alloc | apply pw_below_drewN | apply below_drew1) | exact HB.out)))); (case side2 => repeat (first | exact (Kd.R_reads' HO252.out).2.2 | (with_reducible refine Kd.C_alloc ?_ _) | (with_reducible refine Kd.C_drewN ?_ _) | (with_reducible refine Kd.C_drew ?_))); (case side3 => exact (Kd.R_reads' HO252.out).2.1); rintro e w51 ⟨v254, v257, rfl, ho0, ho1, hb⟩; refine ⟨_, rfl, ?_⟩; have n0_ := Aside0.mk (Kd.R_below (by (with_reducible repeat (first | apply Kd.R_alloc | apply Kd.R_drewN | apply Kd.R_drew)); exact HO252.out) hb); have n1_ := Aside0.mk (Kd.V_lower (Kd.V_mono (ok' := fun k_ => some k_ ≠ (.slice Ao50 y250.length co50 : Value).ownBlock) ho0 (fun k_ hk_ => Or.elim hk_ (fun hs_ => fun e_ => Nat.not_le.2 hs_ (Kd.R_base HO252.out k_ e_.symm)) (fun hn_ => (Kd.fresh' (Kd.R_lt (by (with_reducible repeat (first | apply Kd.R_alloc | apply Kd.R_drewN | apply Kd.R_drew)); exact HO252.out)) k_ hn_)))) (below_size (by repeat (first | (with_reducible first | exact HB.out | apply below_alloc | apply pw_below_drewN | apply below_drew1) | exact HB.out)))); have n2_ := Aside0.mk (Kd.V_lower (Kd.V_mono (ok' := fun k_ => some k_ ≠ (.slice Ao50 y250.length co50 : Value).ownBlock) ho1 (fun k_ hk_ => Or.elim hk_ (fun hs_ => fun e_ => Nat.not_le.2 hs_ (Kd.R_base HO252.out k_ e_.symm)) (fun hn_ => (Kd.fresh' (Kd.R_lt (by (with_reducible repeat (first | apply Kd.R_alloc | apply Kd.R_drewN | apply Kd.R_drew)); exact HO252.out)) k_ hn_)))) (below_size (by repeat (first | (with_reducible first | exact HB.out | apply below_alloc | apply pw_below_drewN | apply below_drew1) | exact HB.out)))); have n3_ := Aside0.mk (below_step (by repeat (first | (with_reducible first | exact HB.out | apply below_alloc | apply pw_below_drewN | apply below_drew1) | exact HB.out)) hb); clear HO252; clear HB; have HO252 := n0_; have HO255 := n1_; have HO258 := n2_; have HB := n3_; clear n0_ n1_ n2_ n3_; (try clear hb); (try clear hb2); (try clear hk); (try clear hi); (try clear ho0); (try clear ho1); obtain ⟨Ao52, co52, eo52⟩ := Kd.V_slice HO255.out; subst eo52))
                            go_roundg kj15
                            case measure => have := HJ2.out; have := HK2.out; have := HJ15.out; omega
                            case rel => exact ⟨(wrap64 (x5_2 + 1)), (by first | rfl | (simp; done) | (simp [*]; done)), H', ⟨by have := HJ2.out; have := HK2.out; have := HJ15.out; omega⟩, ⟨by repeat (first | (with_reducible first | exact HB.out | apply below_alloc | apply pw_below_drewN | apply below_drew1) | exact HB.out)⟩⟩
                        · rw [if_neg c36] at H
                          exact absurd H (by simp)
                      · rw [if_neg c35] at H
                        exact absurd H (by simp)
              · rw [if_neg c15] at H
                exact absurd H (by simp)
            · rw [if_neg c14] at H
              have c14b0 : decide (x5_2 < (l0.length : Int)) = false := decide_eq_false c14
              clear c14
              obtain rfl := Option.some.inj H
              go_wp2
              go_ret
              exact ⟨by first | rfl | (simp [errW_none, errW_some] <;> rfl) | (simp [*, errW_none, errW_some] <;> rfl), by repeat (first | (with_reducible first | exact HB.out | apply below_alloc | apply pw_below_drewN | apply below_drew1) | exact HB.out)⟩

end Go.Proofs.YtjapmlfjlojbeaaDoor.PA
