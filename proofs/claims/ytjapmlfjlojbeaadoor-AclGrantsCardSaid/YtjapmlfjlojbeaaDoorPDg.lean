/- Contracts of doorkeeperlaw22_AclGrants, as the kit's print.py wrote them over the translation. Conditions: those that each contract names. -/
import Derived.Test.YtjapmlfjlojbeaaDoorPA0
import Derived.Test.YtjapmlfjlojbeaaDoorPCb
import Derived.Test.YtjapmlfjlojbeaaDoorHA
import Derived.Test.YtjapmlfjlojbeaaDoorPBa
import Derived.Test.YtjapmlfjlojbeaaDoorHF
import Derived.Test.YtjapmlfjlojbeaaDoorPBf
namespace Go.Proofs.YtjapmlfjlojbeaaDoor.PA
open Go.RowKit Go.Proofs.YtjapmlfjlojbeaaDoorW.PrintWords Go.Proofs.YtjapmlfjlojbeaaDoorW.PrintLast Go.Proofs.YtjapmlfjlojbeaaDoorW.PrintMore
attribute [local go_sem] max2_int min2_int max_two min_two max_three min_three max_four min_four   -- for this text's walks alone
set_option linter.unusedVariables false
set_option linter.unusedVariables false
set_option linter.unusedSimpArgs false

/-! ### doorkeeperlaw22_AclGrants: function 4 -/
def doorkeeperlaw22_AclGrants.j0 : Nat → List (S30) → List ByteArray → ByteArray → ByteArray → Bool → Option (Bool)
  | 0, _, _, _, _, _ => none
  | k + 1, x0, x1, x2, x3, x31 => if x31 = true then ((doorkeeperlaw22_awake.f).bind fun t195 => (some t195)) else ((doorkeeperref22_Match.f k x0 x1).bind fun bt196 => ((acl_Granted.f k bt196.1 bt196.2.1 bt196.2.2.1 bt196.2.2.2 x2 x3).bind fun t205 => ((doorkeeperref22_Granted.f k bt196.1 bt196.2.1 bt196.2.2.1 bt196.2.2.2 x2 x3).bind fun t206 => (if (t205 == t206) = true then ((acl_Methods.f k bt196.1 bt196.2.1 bt196.2.2.1 bt196.2.2.2 x2).bind fun t207 => ((doorkeeperref22_Methods.f k bt196.1 bt196.2.1 bt196.2.2.1 bt196.2.2.2 x2).bind fun t210 => ((doorkeeperref09_Texts.f k t207 t210).bind fun t213 => (some t213)))) else (some false)))))
def doorkeeperlaw22_AclGrants.f (k : Nat) (l0 : List (S30)) (l1 : List ByteArray) (a2 : ByteArray) (a3 : ByteArray) : Option (Bool) := (doorkeeperlaw22_awake.f).bind fun t192 => (if t192 = true then ((doorkeeperref22_Few.f k l0).bind fun t193 => (if t193 = true then ((doorkeeperref16_Few.f k l1).bind fun t194 => (if t194 = true then (if (a2.size : Int) > 60 then (doorkeeperlaw22_AclGrants.j0 k l0 l1 a2 a3 true) else (doorkeeperlaw22_AclGrants.j0 k l0 l1 a2 a3 (decide ((a3.size : Int) > 100)))) else (doorkeeperlaw22_AclGrants.j0 k l0 l1 a2 a3 true))) else (doorkeeperlaw22_AclGrants.j0 k l0 l1 a2 a3 true))) else (doorkeeperlaw22_AclGrants.j0 k l0 l1 a2 a3 true))
theorem doorkeeperlaw22_AclGrants.mono_l : ∀ k, (∀ y0 y1 y2 y3 y4, LeO (doorkeeperlaw22_AclGrants.j0 k y0 y1 y2 y3 y4) (doorkeeperlaw22_AclGrants.j0 (k + 1) y0 y1 y2 y3 y4))
  | 0 => fun _ _ _ _ _ r h => by simp [doorkeeperlaw22_AclGrants.j0] at h
  | k + 1 => by
    have ih0 := doorkeeperlaw22_AclGrants.mono_l k
    · intro y0 y1 y2 y3 y4
      unfold doorkeeperlaw22_AclGrants.j0
      repeat' first
      | (with_reducible exact ih0 _ _ _ _ _)
      | (with_reducible exact acl_Granted.mono _ _ _ _ _ _ _)
      | (with_reducible exact acl_Methods.mono _ _ _ _ _ _)
      | (with_reducible exact doorkeeperref09_Texts.mono _ _ _)
      | (with_reducible exact doorkeeperref16_Few.mono _ _)
      | (with_reducible exact doorkeeperref22_Few.mono _ _)
      | (with_reducible exact doorkeeperref22_Granted.mono _ _ _ _ _ _ _)
      | (with_reducible exact doorkeeperref22_Match.mono _ _ _)
      | (with_reducible exact doorkeeperref22_Methods.mono _ _ _ _ _ _)
      | (with_reducible exact LeO.refl _)
      | (with_reducible exact LeO.none _)
      | (with_reducible refine LeO.ite ?_ ?_)
      | (with_reducible refine LeO.bind ?_ (fun _ => ?_))
      | exact ih0 _ _ _ _ _
      | exact acl_Granted.mono _ _ _ _ _ _ _
      | exact acl_Methods.mono _ _ _ _ _ _
      | exact doorkeeperref09_Texts.mono _ _ _
      | exact doorkeeperref16_Few.mono _ _
      | exact doorkeeperref22_Few.mono _ _
      | exact doorkeeperref22_Granted.mono _ _ _ _ _ _ _
      | exact doorkeeperref22_Match.mono _ _ _
      | exact doorkeeperref22_Methods.mono _ _ _ _ _ _
      | exact LeO.none _
      | refine LeO.ite ?_ ?_
      | refine LeO.bind ?_ (fun _ => ?_)
theorem doorkeeperlaw22_AclGrants.mono : ∀ a0 a1 a2 a3 k, LeO (doorkeeperlaw22_AclGrants.f k a0 a1 a2 a3) (doorkeeperlaw22_AclGrants.f (k + 1) a0 a1 a2 a3) := by
  intro a0 a1 a2 a3 k
  have ih0 := doorkeeperlaw22_AclGrants.mono_l k
  unfold doorkeeperlaw22_AclGrants.f
  repeat' first
      | (with_reducible exact ih0 _ _ _ _ _)
      | (with_reducible exact acl_Granted.mono _ _ _ _ _ _ _)
      | (with_reducible exact acl_Methods.mono _ _ _ _ _ _)
      | (with_reducible exact doorkeeperref09_Texts.mono _ _ _)
      | (with_reducible exact doorkeeperref16_Few.mono _ _)
      | (with_reducible exact doorkeeperref22_Few.mono _ _)
      | (with_reducible exact doorkeeperref22_Granted.mono _ _ _ _ _ _ _)
      | (with_reducible exact doorkeeperref22_Match.mono _ _ _)
      | (with_reducible exact doorkeeperref22_Methods.mono _ _ _ _ _ _)
      | (with_reducible exact LeO.refl _)
      | (with_reducible exact LeO.none _)
      | (with_reducible refine LeO.ite ?_ ?_)
      | (with_reducible refine LeO.bind ?_ (fun _ => ?_))
      | exact ih0 _ _ _ _ _
      | exact acl_Granted.mono _ _ _ _ _ _ _
      | exact acl_Methods.mono _ _ _ _ _ _
      | exact doorkeeperref09_Texts.mono _ _ _
      | exact doorkeeperref16_Few.mono _ _
      | exact doorkeeperref22_Few.mono _ _
      | exact doorkeeperref22_Granted.mono _ _ _ _ _ _ _
      | exact doorkeeperref22_Match.mono _ _ _
      | exact doorkeeperref22_Methods.mono _ _ _ _ _ _
      | exact LeO.none _
      | refine LeO.ite ?_ ?_
      | refine LeO.bind ?_ (fun _ => ?_)
def doorkeeperlaw22_AclGrants.T4 : Bool × List (List Nat × List Nat) := (true, [([], []), ([], []), ([], []), ([0, 1, 2], [0, 1, 2]), ([], []), ([], []), ([], []), ([4, 5, 6, 3], [4, 5, 6]), ([3, 7], [3, 7]), ([8, 7], [8]), ([9], [9]), ([9], [9]), ([10, 11, 9, 9], [9, 10, 11]), ([9], [9]), ([9], [9]), ([13, 14, 12, 9], [9, 13, 14]), ([12, 15, 15, 9], [9, 12, 15]), ([9, 16], [9, 16]), ([17, 16, 0, 1, 2, 3, 4, 5, 6, 7, 8, 9, 10, 11, 12, 13, 14, 15, 16, 17], [17])])
def doorkeeperlaw22_AclGrants.B4 : List Nat := [0, 0, 0, 7, 0, 0, 0, 127, 255, 511, 1023, 1023, 4095, 1023, 1023, 32767, 65535, 131071, 262143]
theorem doorkeeperlaw22_AclGrants.tab4 : rtab .any (opsOf Tryd.f4 4) = doorkeeperlaw22_AclGrants.T4 := by kernel_rfl
theorem doorkeeperlaw22_AclGrants.bits4 : waitsOk doorkeeperlaw22_AclGrants.T4.2 doorkeeperlaw22_AclGrants.B4 = true := by kernel_rfl
set_option maxHeartbeats 8000000 in
set_option maxRecDepth 100000 in
theorem doorkeeperlaw22_AclGrants.calls (k : Nat) (A0 : Option Addr) (c0 : Nat) (l0 : List (S30)) (A1 : Option Addr) (c1 : Nat) (l1 : List ByteArray) (a2 : ByteArray) (a3 : ByteArray) (r : Bool) (w : World) (hr0 : Kd.C k30 w A0 l0.length l0) (hc0 : l0.length ≤ c0) (hr1 : Kd.C Kd.string w A1 l1.length l1) (hc1 : l1.length ≤ c1) (h : doorkeeperlaw22_AclGrants.f k l0 l1 a2 a3 = some r) (hL : Laid w) :
    Calls Tryd.prog 4 #[.slice A0 l0.length c0, .slice A1 l1.length c1, .string a2, .string a3] w fun e w' => e = .returned (.bool r) ∧ Below w.heap.size w w' := by
  have HL := Aside0.mk hL
  clear hL
  have hu30 := Tryd.underlying30
  have HR0 := Aside0.mk hr0
  have HC0 := Aside0.mk hc0
  clear hr0 hc0
  have HR1 := Aside0.mk hr1
  have HC1 := Aside0.mk hc1
  clear hr1 hc1
  have HB := Aside0.mk (Below.refl w.heap.size w)
  have H : ((doorkeeperlaw22_awake.f).bind fun t192 => (if t192 = true then ((doorkeeperref22_Few.f k l0).bind fun t193 => (if t193 = true then ((doorkeeperref16_Few.f k l1).bind fun t194 => (if t194 = true then (if (a2.size : Int) > 60 then (doorkeeperlaw22_AclGrants.j0 k l0 l1 a2 a3 true) else (doorkeeperlaw22_AclGrants.j0 k l0 l1 a2 a3 (decide ((a3.size : Int) > 100)))) else (doorkeeperlaw22_AclGrants.j0 k l0 l1 a2 a3 true))) else (doorkeeperlaw22_AclGrants.j0 k l0 l1 a2 a3 true))) else (doorkeeperlaw22_AclGrants.j0 k l0 l1 a2 a3 true))) = some r := h
  clear h
  have HC5 := Aside0.mk H
  clear H
  go_enter Tryd.func4, Tryd.ntmps4
  go_upto_region 1 with (fail)
  go_cut [31] (fun v31 wc => ∃ (kq : Nat) (x31_4 : Bool), v31 = .bool x31_4 ∧ Aside0 (doorkeeperlaw22_AclGrants.j0 kq l0 l1 a2 a3 x31_4 = some r) ∧ Aside0 (kq ≤ k) ∧ Aside0 (Below w.heap.size w wc))
  case first =>
    have H := HC5.out
    clear HC5
    replace H := Option.bind_eq_some_iff.mp H
    obtain ⟨t192, A60, H⟩ := H
    replace H : (if t192 = true then ((doorkeeperref22_Few.f k l0).bind fun t193 => (if t193 = true then ((doorkeeperref16_Few.f k l1).bind fun t194 => (if t194 = true then (if (a2.size : Int) > 60 then (doorkeeperlaw22_AclGrants.j0 k l0 l1 a2 a3 true) else (doorkeeperlaw22_AclGrants.j0 k l0 l1 a2 a3 (decide ((a3.size : Int) > 100)))) else (doorkeeperlaw22_AclGrants.j0 k l0 l1 a2 a3 true))) else (doorkeeperlaw22_AclGrants.j0 k l0 l1 a2 a3 true))) else (doorkeeperlaw22_AclGrants.j0 k l0 l1 a2 a3 true)) = some r := H
    have A6 := Aside0.mk A60
    clear A60
    by_cases c7 : t192 = true
    · subst c7
      have H1 : ((doorkeeperref22_Few.f k l0).bind fun t193 => (if t193 = true then ((doorkeeperref16_Few.f k l1).bind fun t194 => (if t194 = true then (if (a2.size : Int) > 60 then (doorkeeperlaw22_AclGrants.j0 k l0 l1 a2 a3 true) else (doorkeeperlaw22_AclGrants.j0 k l0 l1 a2 a3 (decide ((a3.size : Int) > 100)))) else (doorkeeperlaw22_AclGrants.j0 k l0 l1 a2 a3 true))) else (doorkeeperlaw22_AclGrants.j0 k l0 l1 a2 a3 true))) = some r := by rw [if_pos rfl] at H; exact H
      clear H
      have H := H1
      clear H1
      replace H := Option.bind_eq_some_iff.mp H
      obtain ⟨t193, A80, H⟩ := H
      replace H : (if t193 = true then ((doorkeeperref16_Few.f k l1).bind fun t194 => (if t194 = true then (if (a2.size : Int) > 60 then (doorkeeperlaw22_AclGrants.j0 k l0 l1 a2 a3 true) else (doorkeeperlaw22_AclGrants.j0 k l0 l1 a2 a3 (decide ((a3.size : Int) > 100)))) else (doorkeeperlaw22_AclGrants.j0 k l0 l1 a2 a3 true))) else (doorkeeperlaw22_AclGrants.j0 k l0 l1 a2 a3 true)) = some r := H
      have A8 := Aside0.mk A80
      clear A80
      by_cases c9 : t193 = true
      · subst c9
        have H1 : ((doorkeeperref16_Few.f k l1).bind fun t194 => (if t194 = true then (if (a2.size : Int) > 60 then (doorkeeperlaw22_AclGrants.j0 k l0 l1 a2 a3 true) else (doorkeeperlaw22_AclGrants.j0 k l0 l1 a2 a3 (decide ((a3.size : Int) > 100)))) else (doorkeeperlaw22_AclGrants.j0 k l0 l1 a2 a3 true))) = some r := by rw [if_pos rfl] at H; exact H
        clear H
        have H := H1
        clear H1
        replace H := Option.bind_eq_some_iff.mp H
        obtain ⟨t194, A100, H⟩ := H
        replace H : (if t194 = true then (if (a2.size : Int) > 60 then (doorkeeperlaw22_AclGrants.j0 k l0 l1 a2 a3 true) else (doorkeeperlaw22_AclGrants.j0 k l0 l1 a2 a3 (decide ((a3.size : Int) > 100)))) else (doorkeeperlaw22_AclGrants.j0 k l0 l1 a2 a3 true)) = some r := H
        have A10 := Aside0.mk A100
        clear A100
        by_cases c11 : t194 = true
        · subst c11
          have H1 : (if (a2.size : Int) > 60 then (doorkeeperlaw22_AclGrants.j0 k l0 l1 a2 a3 true) else (doorkeeperlaw22_AclGrants.j0 k l0 l1 a2 a3 (decide ((a3.size : Int) > 100)))) = some r := by rw [if_pos rfl] at H; exact H
          clear H
          have H := H1
          clear H1
          by_cases c12 : (a2.size : Int) > 60
          · rw [if_pos c12] at H
            have c12b0 : decide (60 < (a2.size : Int)) = true := decide_eq_true c12
            have c12b1 : decide (60 < a2.size) = true := decide_eq_true (by omega)
            clear c12
            (first | rw [c12b0] | (simp only [i64_w, i32_w]; rw [c12b0]) | skip)
            have H' := Aside0.mk H
            clear H
            go_wp2_with (first | ((with_reducible refine gate_callee (f := 12) rfl ?_); refine goesL_ (some 10) rfl rfl Tryd.func12 (by kernel_rfl) rfl #[] rfl (by (try simp only [List.map_toArray, List.map_cons, List.map_nil]); first | done | rfl | (simp only [List.length_drop, List.length_take]; rfl)) ?_; (with_reducible refine (doorkeeperlaw22_awake.calls  true _ A6.out ?sideL).mono ?_); (case sideL => first | exact HL.out.below (by repeat (first | (with_reducible first | exact HB.out | apply below_alloc | apply pw_below_drewN | apply below_drew1) | exact HB.out)) | exact (HL.out.below (by repeat (first | (with_reducible first | exact HB.out | apply below_alloc | apply pw_below_drewN | apply below_drew1) | exact HB.out))).1 | exact (HL.out.below (by repeat (first | (with_reducible first | exact HB.out | apply below_alloc | apply pw_below_drewN | apply below_drew1) | exact HB.out))).2); rintro e w13 ⟨rfl, hb⟩; refine ⟨_, rfl, ?_⟩; have n0_ := Aside0.mk (below_step (by repeat (first | (with_reducible first | exact HB.out | apply below_alloc | apply pw_below_drewN | apply below_drew1) | exact HB.out)) hb); clear HB; have HB := n0_; clear n0_; (try clear hb); (try clear hb2); (try clear hk); (try clear hi)) | (go_at_call 13; (with_reducible refine (doorkeeperref22_Few.calls k _ _ l0 true _ ?side1 ?side2 A8.out).mono ?_); (case side1 => repeat (first | exact (Kd.C_below HR0.out HB.out) | (with_reducible refine Kd.C_alloc ?_ _) | (with_reducible refine Kd.C_drewN ?_ _) | (with_reducible refine Kd.C_drew ?_))); (case side2 => exact HC0.out); rintro e w' ⟨rfl, ⟨nd, rfl⟩⟩) | (go_at_call 14; (with_reducible refine (doorkeeperref16_Few.calls k _ _ l1 true _ ?side1 ?side2 A10.out).mono ?_); (case side1 => repeat (first | exact (Kd.C_below HR1.out (by repeat (first | (with_reducible first | exact HB.out | apply below_alloc | apply pw_below_drewN | apply below_drew1) | exact HB.out))) | (with_reducible refine Kd.C_alloc ?_ _) | (with_reducible refine Kd.C_drewN ?_ _) | (with_reducible refine Kd.C_drew ?_))); (case side2 => exact HC1.out); rintro e w' ⟨rfl, ⟨nd, rfl⟩⟩))
            go_meet
            case rel => exact ⟨_, (true), (by first | rfl | (simp; done) | (simp [*]; done)), H', ⟨by first | omega | exact Nat.le_refl _⟩, ⟨by repeat (first | (with_reducible first | exact HB.out | apply below_alloc | apply pw_below_drewN | apply below_drew1) | exact HB.out)⟩⟩
          · rw [if_neg c12] at H
            have c12b0 : decide (60 < (a2.size : Int)) = false := decide_eq_false c12
            have c12b1 : decide (60 < a2.size) = false := decide_eq_false (by omega)
            clear c12
            (first | rw [c12b0] | (simp only [i64_w, i32_w]; rw [c12b0]) | skip)
            have H' := Aside0.mk H
            clear H
            go_wp2_with (first | ((with_reducible refine gate_callee (f := 12) rfl ?_); refine goesL_ (some 10) rfl rfl Tryd.func12 (by kernel_rfl) rfl #[] rfl (by (try simp only [List.map_toArray, List.map_cons, List.map_nil]); first | done | rfl | (simp only [List.length_drop, List.length_take]; rfl)) ?_; (with_reducible refine (doorkeeperlaw22_awake.calls  true _ A6.out ?sideL).mono ?_); (case sideL => first | exact HL.out.below (by repeat (first | (with_reducible first | exact HB.out | apply below_alloc | apply pw_below_drewN | apply below_drew1) | exact HB.out)) | exact (HL.out.below (by repeat (first | (with_reducible first | exact HB.out | apply below_alloc | apply pw_below_drewN | apply below_drew1) | exact HB.out))).1 | exact (HL.out.below (by repeat (first | (with_reducible first | exact HB.out | apply below_alloc | apply pw_below_drewN | apply below_drew1) | exact HB.out))).2); rintro e w14 ⟨rfl, hb⟩; refine ⟨_, rfl, ?_⟩; have n0_ := Aside0.mk (below_step (by repeat (first | (with_reducible first | exact HB.out | apply below_alloc | apply pw_below_drewN | apply below_drew1) | exact HB.out)) hb); clear HB; have HB := n0_; clear n0_; (try clear hb); (try clear hb2); (try clear hk); (try clear hi)) | (go_at_call 13; (with_reducible refine (doorkeeperref22_Few.calls k _ _ l0 true _ ?side1 ?side2 A8.out).mono ?_); (case side1 => repeat (first | exact (Kd.C_below HR0.out HB.out) | (with_reducible refine Kd.C_alloc ?_ _) | (with_reducible refine Kd.C_drewN ?_ _) | (with_reducible refine Kd.C_drew ?_))); (case side2 => exact HC0.out); rintro e w' ⟨rfl, ⟨nd, rfl⟩⟩) | (go_at_call 14; (with_reducible refine (doorkeeperref16_Few.calls k _ _ l1 true _ ?side1 ?side2 A10.out).mono ?_); (case side1 => repeat (first | exact (Kd.C_below HR1.out (by repeat (first | (with_reducible first | exact HB.out | apply below_alloc | apply pw_below_drewN | apply below_drew1) | exact HB.out))) | (with_reducible refine Kd.C_alloc ?_ _) | (with_reducible refine Kd.C_drewN ?_ _) | (with_reducible refine Kd.C_drew ?_))); (case side2 => exact HC1.out); rintro e w' ⟨rfl, ⟨nd, rfl⟩⟩))
            go_meet
            case rel => exact ⟨_, (decide ((a3.size : Int) > 100)), (by first | rfl | (simp; done) | (simp [*]; done)), H', ⟨by first | omega | exact Nat.le_refl _⟩, ⟨by repeat (first | (with_reducible first | exact HB.out | apply below_alloc | apply pw_below_drewN | apply below_drew1) | exact HB.out)⟩⟩
        · replace c11 := Bool.eq_false_iff.mpr c11
          subst c11
          have H1 : (doorkeeperlaw22_AclGrants.j0 k l0 l1 a2 a3 true) = some r := by rw [if_neg (show ¬ (false = true) by decide)] at H; exact H
          clear H
          have H := H1
          clear H1
          have H' := Aside0.mk H
          clear H
          go_wp2_with (first | ((with_reducible refine gate_callee (f := 12) rfl ?_); refine goesL_ (some 10) rfl rfl Tryd.func12 (by kernel_rfl) rfl #[] rfl (by (try simp only [List.map_toArray, List.map_cons, List.map_nil]); first | done | rfl | (simp only [List.length_drop, List.length_take]; rfl)) ?_; (with_reducible refine (doorkeeperlaw22_awake.calls  true _ A6.out ?sideL).mono ?_); (case sideL => first | exact HL.out.below (by repeat (first | (with_reducible first | exact HB.out | apply below_alloc | apply pw_below_drewN | apply below_drew1) | exact HB.out)) | exact (HL.out.below (by repeat (first | (with_reducible first | exact HB.out | apply below_alloc | apply pw_below_drewN | apply below_drew1) | exact HB.out))).1 | exact (HL.out.below (by repeat (first | (with_reducible first | exact HB.out | apply below_alloc | apply pw_below_drewN | apply below_drew1) | exact HB.out))).2); rintro e w15 ⟨rfl, hb⟩; refine ⟨_, rfl, ?_⟩; have n0_ := Aside0.mk (below_step (by repeat (first | (with_reducible first | exact HB.out | apply below_alloc | apply pw_below_drewN | apply below_drew1) | exact HB.out)) hb); clear HB; have HB := n0_; clear n0_; (try clear hb); (try clear hb2); (try clear hk); (try clear hi)) | (go_at_call 13; (with_reducible refine (doorkeeperref22_Few.calls k _ _ l0 true _ ?side1 ?side2 A8.out).mono ?_); (case side1 => repeat (first | exact (Kd.C_below HR0.out HB.out) | (with_reducible refine Kd.C_alloc ?_ _) | (with_reducible refine Kd.C_drewN ?_ _) | (with_reducible refine Kd.C_drew ?_))); (case side2 => exact HC0.out); rintro e w' ⟨rfl, ⟨nd, rfl⟩⟩) | (go_at_call 14; (with_reducible refine (doorkeeperref16_Few.calls k _ _ l1 false _ ?side1 ?side2 A10.out).mono ?_); (case side1 => repeat (first | exact (Kd.C_below HR1.out (by repeat (first | (with_reducible first | exact HB.out | apply below_alloc | apply pw_below_drewN | apply below_drew1) | exact HB.out))) | (with_reducible refine Kd.C_alloc ?_ _) | (with_reducible refine Kd.C_drewN ?_ _) | (with_reducible refine Kd.C_drew ?_))); (case side2 => exact HC1.out); rintro e w' ⟨rfl, ⟨nd, rfl⟩⟩))
          go_meet
          case rel => exact ⟨_, (true), (by first | rfl | (simp; done) | (simp [*]; done)), H', ⟨by first | omega | exact Nat.le_refl _⟩, ⟨by repeat (first | (with_reducible first | exact HB.out | apply below_alloc | apply pw_below_drewN | apply below_drew1) | exact HB.out)⟩⟩
      · replace c9 := Bool.eq_false_iff.mpr c9
        subst c9
        have H1 : (doorkeeperlaw22_AclGrants.j0 k l0 l1 a2 a3 true) = some r := by rw [if_neg (show ¬ (false = true) by decide)] at H; exact H
        clear H
        have H := H1
        clear H1
        have H' := Aside0.mk H
        clear H
        go_wp2_with (first | ((with_reducible refine gate_callee (f := 12) rfl ?_); refine goesL_ (some 10) rfl rfl Tryd.func12 (by kernel_rfl) rfl #[] rfl (by (try simp only [List.map_toArray, List.map_cons, List.map_nil]); first | done | rfl | (simp only [List.length_drop, List.length_take]; rfl)) ?_; (with_reducible refine (doorkeeperlaw22_awake.calls  true _ A6.out ?sideL).mono ?_); (case sideL => first | exact HL.out.below (by repeat (first | (with_reducible first | exact HB.out | apply below_alloc | apply pw_below_drewN | apply below_drew1) | exact HB.out)) | exact (HL.out.below (by repeat (first | (with_reducible first | exact HB.out | apply below_alloc | apply pw_below_drewN | apply below_drew1) | exact HB.out))).1 | exact (HL.out.below (by repeat (first | (with_reducible first | exact HB.out | apply below_alloc | apply pw_below_drewN | apply below_drew1) | exact HB.out))).2); rintro e w16 ⟨rfl, hb⟩; refine ⟨_, rfl, ?_⟩; have n0_ := Aside0.mk (below_step (by repeat (first | (with_reducible first | exact HB.out | apply below_alloc | apply pw_below_drewN | apply below_drew1) | exact HB.out)) hb); clear HB; have HB := n0_; clear n0_; (try clear hb); (try clear hb2); (try clear hk); (try clear hi)) | (go_at_call 13; (with_reducible refine (doorkeeperref22_Few.calls k _ _ l0 false _ ?side1 ?side2 A8.out).mono ?_); (case side1 => repeat (first | exact (Kd.C_below HR0.out HB.out) | (with_reducible refine Kd.C_alloc ?_ _) | (with_reducible refine Kd.C_drewN ?_ _) | (with_reducible refine Kd.C_drew ?_))); (case side2 => exact HC0.out); rintro e w' ⟨rfl, ⟨nd, rfl⟩⟩))
        go_meet
        case rel => exact ⟨_, (true), (by first | rfl | (simp; done) | (simp [*]; done)), H', ⟨by first | omega | exact Nat.le_refl _⟩, ⟨by repeat (first | (with_reducible first | exact HB.out | apply below_alloc | apply pw_below_drewN | apply below_drew1) | exact HB.out)⟩⟩
    · replace c7 := Bool.eq_false_iff.mpr c7
      subst c7
      have H1 : (doorkeeperlaw22_AclGrants.j0 k l0 l1 a2 a3 true) = some r := by rw [if_neg (show ¬ (false = true) by decide)] at H; exact H
      clear H
      have H := H1
      clear H1
      have H' := Aside0.mk H
      clear H
      go_wp2_with (first | ((with_reducible refine gate_callee (f := 12) rfl ?_); refine goesL_ (some 10) rfl rfl Tryd.func12 (by kernel_rfl) rfl #[] rfl (by (try simp only [List.map_toArray, List.map_cons, List.map_nil]); first | done | rfl | (simp only [List.length_drop, List.length_take]; rfl)) ?_; (with_reducible refine (doorkeeperlaw22_awake.calls  false _ A6.out ?sideL).mono ?_); (case sideL => first | exact HL.out.below (by repeat (first | (with_reducible first | exact HB.out | apply below_alloc | apply pw_below_drewN | apply below_drew1) | exact HB.out)) | exact (HL.out.below (by repeat (first | (with_reducible first | exact HB.out | apply below_alloc | apply pw_below_drewN | apply below_drew1) | exact HB.out))).1 | exact (HL.out.below (by repeat (first | (with_reducible first | exact HB.out | apply below_alloc | apply pw_below_drewN | apply below_drew1) | exact HB.out))).2); rintro e w17 ⟨rfl, hb⟩; refine ⟨_, rfl, ?_⟩; have n0_ := Aside0.mk (below_step (by repeat (first | (with_reducible first | exact HB.out | apply below_alloc | apply pw_below_drewN | apply below_drew1) | exact HB.out)) hb); clear HB; have HB := n0_; clear n0_; (try clear hb); (try clear hb2); (try clear hk); (try clear hi)))
      go_meet
      case rel => exact ⟨_, (true), (by first | rfl | (simp; done) | (simp [*]; done)), H', ⟨by first | omega | exact Nat.le_refl _⟩, ⟨by repeat (first | (with_reducible first | exact HB.out | apply below_alloc | apply pw_below_drewN | apply below_drew1) | exact HB.out)⟩⟩
  case rest =>
    clear HC5
    try clear c1
    try clear p2
    try clear c4
    try clear c7
    try clear c9
    try clear c11
    try clear c12
    try clear c12b0
    try clear c12b1
    obtain ⟨kq, x31_4, rfl, HA, HJ4, HB⟩ := hcut
    cases kq with
    | zero => exact absurd HA.out (by simp [doorkeeperlaw22_AclGrants.j0])
    | succ kj4 =>
      have H := HA.out
      clear HA
      simp only [doorkeeperlaw22_AclGrants.j0] at H
      by_cases c18 : x31_4 = true
      · subst c18
        have H1 : ((doorkeeperlaw22_awake.f).bind fun t195 => (some t195)) = some r := by rw [if_pos rfl] at H; exact H
        clear H
        have H := H1
        clear H1
        replace H := Option.bind_eq_some_iff.mp H
        obtain ⟨t195, A190, H⟩ := H
        replace H : (some t195) = some r := H
        have A19 := Aside0.mk A190
        clear A190
        obtain rfl := Option.some.inj H
        go_wp2_with (first | ((with_reducible refine gate_callee (f := 12) rfl ?_); refine goesL_ (some 32) rfl rfl Tryd.func12 (by kernel_rfl) rfl #[] rfl (by (try simp only [List.map_toArray, List.map_cons, List.map_nil]); first | done | rfl | (simp only [List.length_drop, List.length_take]; rfl)) ?_; (with_reducible refine (doorkeeperlaw22_awake.calls  t195 _ A19.out ?sideL).mono ?_); (case sideL => first | exact HL.out.below (by repeat (first | (with_reducible first | exact HB.out | apply below_alloc | apply pw_below_drewN | apply below_drew1) | exact HB.out)) | exact (HL.out.below (by repeat (first | (with_reducible first | exact HB.out | apply below_alloc | apply pw_below_drewN | apply below_drew1) | exact HB.out))).1 | exact (HL.out.below (by repeat (first | (with_reducible first | exact HB.out | apply below_alloc | apply pw_below_drewN | apply below_drew1) | exact HB.out))).2); rintro e w20 ⟨rfl, hb⟩; refine ⟨_, rfl, ?_⟩; have n0_ := Aside0.mk (below_step (by repeat (first | (with_reducible first | exact HB.out | apply below_alloc | apply pw_below_drewN | apply below_drew1) | exact HB.out)) hb); clear HB; have HB := n0_; clear n0_; (try clear hb); (try clear hb2); (try clear hk); (try clear hi)))
        go_ret
        exact ⟨by first | rfl | (simp [errW_none, errW_some] <;> rfl) | (simp [*, errW_none, errW_some] <;> rfl), by repeat (first | (with_reducible first | exact HB.out | apply below_alloc | apply pw_below_drewN | apply below_drew1) | exact HB.out)⟩
      · replace c18 := Bool.eq_false_iff.mpr c18
        subst c18
        have H1 : ((doorkeeperref22_Match.f kj4 l0 l1).bind fun bt196 => ((acl_Granted.f kj4 bt196.1 bt196.2.1 bt196.2.2.1 bt196.2.2.2 a2 a3).bind fun t205 => ((doorkeeperref22_Granted.f kj4 bt196.1 bt196.2.1 bt196.2.2.1 bt196.2.2.2 a2 a3).bind fun t206 => (if (t205 == t206) = true then ((acl_Methods.f kj4 bt196.1 bt196.2.1 bt196.2.2.1 bt196.2.2.2 a2).bind fun t207 => ((doorkeeperref22_Methods.f kj4 bt196.1 bt196.2.1 bt196.2.2.1 bt196.2.2.2 a2).bind fun t210 => ((doorkeeperref09_Texts.f kj4 t207 t210).bind fun t213 => (some t213)))) else (some false))))) = some r := by rw [if_neg (show ¬ (false = true) by decide)] at H; exact H
        clear H
        have H := H1
        clear H1
        replace H := Option.bind_eq_some_iff.mp H
        obtain ⟨⟨t196, t199, t202, t203⟩, A210, H⟩ := H
        replace H : ((acl_Granted.f kj4 t196 t199 t202 t203 a2 a3).bind fun t205 => ((doorkeeperref22_Granted.f kj4 t196 t199 t202 t203 a2 a3).bind fun t206 => (if (t205 == t206) = true then ((acl_Methods.f kj4 t196 t199 t202 t203 a2).bind fun t207 => ((doorkeeperref22_Methods.f kj4 t196 t199 t202 t203 a2).bind fun t210 => ((doorkeeperref09_Texts.f kj4 t207 t210).bind fun t213 => (some t213)))) else (some false)))) = some r := H
        have A21 := Aside0.mk A210
        clear A210
        replace H := Option.bind_eq_some_iff.mp H
        obtain ⟨t205, A220, H⟩ := H
        replace H : ((doorkeeperref22_Granted.f kj4 t196 t199 t202 t203 a2 a3).bind fun t206 => (if (t205 == t206) = true then ((acl_Methods.f kj4 t196 t199 t202 t203 a2).bind fun t207 => ((doorkeeperref22_Methods.f kj4 t196 t199 t202 t203 a2).bind fun t210 => ((doorkeeperref09_Texts.f kj4 t207 t210).bind fun t213 => (some t213)))) else (some false))) = some r := H
        have A22 := Aside0.mk A220
        clear A220
        replace H := Option.bind_eq_some_iff.mp H
        obtain ⟨t206, A230, H⟩ := H
        replace H : (if (t205 == t206) = true then ((acl_Methods.f kj4 t196 t199 t202 t203 a2).bind fun t207 => ((doorkeeperref22_Methods.f kj4 t196 t199 t202 t203 a2).bind fun t210 => ((doorkeeperref09_Texts.f kj4 t207 t210).bind fun t213 => (some t213)))) else (some false)) = some r := H
        have A23 := Aside0.mk A230
        clear A230
        by_cases c24 : (t205 == t206) = true
        · rw [if_pos c24] at H
          have c24b0 : (t205 == t206) = true := c24
          (try (have c24b1 : decide (t205 = t206) = true := by simpa using c24))
          (try (have c24b2 : (t205 == t206) = true := by simpa using c24))
          clear c24
          replace H := Option.bind_eq_some_iff.mp H
          obtain ⟨t207, A250, H⟩ := H
          replace H : ((doorkeeperref22_Methods.f kj4 t196 t199 t202 t203 a2).bind fun t210 => ((doorkeeperref09_Texts.f kj4 t207 t210).bind fun t213 => (some t213))) = some r := H
          have A25 := Aside0.mk A250
          clear A250
          replace H := Option.bind_eq_some_iff.mp H
          obtain ⟨t210, A260, H⟩ := H
          replace H : ((doorkeeperref09_Texts.f kj4 t207 t210).bind fun t213 => (some t213)) = some r := H
          have A26 := Aside0.mk A260
          clear A260
          replace H := Option.bind_eq_some_iff.mp H
          obtain ⟨t213, A270, H⟩ := H
          replace H : (some t213) = some r := H
          have A27 := Aside0.mk A270
          clear A270
          obtain rfl := Option.some.inj H
          try go_wp2_with (first | ((with_reducible refine gate_callee (f := 17) rfl ?_); refine goesL_ (some 35) rfl rfl Tryd.func17 (by kernel_rfl) rfl #[.slice A0 l0.length c0, .slice A1 l1.length c1] rfl (by (try simp only [List.map_toArray, List.map_cons, List.map_nil]); first | done | rfl | (simp only [List.length_drop, List.length_take]; rfl)) ?_; (with_reducible refine (doorkeeperref22_Match.calls kj4 (fun k_ => k_ < w.heap.size) _ _ l0 _ _ l1 t196 t199 t202 t203 _ ?side1 ?side2 ?side3 A21.out).mono ?_); (case side1 => exact Kd.V_mk HC0.out (Kd.F_below (Kd.C_F k30_heap HR0.out) (by repeat (first | (with_reducible first | exact HB.out | apply below_alloc | apply pw_below_drewN | apply below_drew1) | exact HB.out)))); (case side2 => repeat (first | exact (Kd.C_below HR1.out HB.out) | (with_reducible refine Kd.C_alloc ?_ _) | (with_reducible refine Kd.C_drewN ?_ _) | (with_reducible refine Kd.C_drew ?_))); (case side3 => exact HC1.out); rintro e w28 ⟨v197, v200, rfl, ho0, ho1, hb⟩; refine ⟨_, rfl, ?_⟩; have n0_ := Aside0.mk (Kd.V_lower (Kd.V_mono (ok' := fun k_ => True) ho0 (fun k_ hk_ => trivial)) (below_size (by repeat (first | (with_reducible first | exact HB.out | apply below_alloc | apply pw_below_drewN | apply below_drew1) | exact HB.out)))); have n1_ := Aside0.mk (Kd.V_lower (Kd.V_mono (ok' := fun k_ => True) ho1 (fun k_ hk_ => trivial)) (below_size (by repeat (first | (with_reducible first | exact HB.out | apply below_alloc | apply pw_below_drewN | apply below_drew1) | exact HB.out)))); have n2_ := Aside0.mk (below_step (by repeat (first | (with_reducible first | exact HB.out | apply below_alloc | apply pw_below_drewN | apply below_drew1) | exact HB.out)) hb); clear HB; have HO198 := n0_; have HO201 := n1_; have HB := n2_; clear n0_ n1_ n2_; (try clear hb); (try clear hb2); (try clear hk); (try clear hi); (try clear ho0); (try clear ho1)) | ((with_reducible refine gate_dst (N := 9) rfl ?_); (try (refine gate_guard (by rfl) ?_; dsimp only)); refine box_event ?hg (N := 9) ?hd (cs := #[.slice none 0 0, .slice none 0 0, .bool false, .string (⟨#[]⟩ : ByteArray)]) (t := 30) ?hr ?_; (case hd => rfl); (case hg => rfl); (case hr => first | (go_simp; done) | (go_simp; rfl)); intro gb204 hg w29 hbox hb; have n0_ := Aside0.mk (Kd.V_below (Kd.V_elderB (by (with_reducible repeat (first | apply Kd.V_alloc | apply Kd.V_drewN | apply Kd.V_drew)); exact HO198.out) gb204 (Nat.le_of_eq hg.symm)) hb); have n1_ := Aside0.mk (Kd.V_below (Kd.V_elderB (by (with_reducible repeat (first | apply Kd.V_alloc | apply Kd.V_drewN | apply Kd.V_drew)); exact HO201.out) gb204 (Nat.le_of_eq hg.symm)) hb); have n2_ := Aside0.mk (below_step (by repeat (first | (with_reducible first | exact HB.out | apply below_alloc | apply pw_below_drewN | apply below_drew1) | exact HB.out)) hb); have n3_ := Aside0.mk (hbox); have n4_ := Aside0.mk ((by rw [hg]; exact (below_size (by repeat (first | (with_reducible first | exact HB.out | apply below_alloc | apply pw_below_drewN | apply below_drew1) | exact HB.out))) : w.heap.size ≤ gb204)); have n5_ := Aside0.mk ((by rw [hg]; exact (below_size (by repeat (first | (with_reducible first | exact HB.out | apply below_alloc | apply pw_below_drewN | apply below_drew1) | exact HB.out))) : w.heap.size ≤ gb204)); clear HO198; clear HO201; clear HB; have HO198 := n0_; have HO201 := n1_; have HB := n2_; have BK204 := n3_; have GW204 := n4_; have GE204 := n5_; clear n0_ n1_ n2_ n3_ n4_ n5_; clear hb hbox hg; obtain ⟨Ao30, co30, eo30⟩ := Kd.V_slice HO198.out; subst eo30; have hcz31_0 : w29.cell? ⟨gb204, 0, none⟩ = some (.slice none 0 0) := (blk_cell BK204.out 0).trans rfl; have hcz31_1 : w29.cell? ⟨gb204, 1, none⟩ = some (.slice none 0 0) := (blk_cell BK204.out 1).trans rfl; have hcz31_2 : w29.cell? ⟨gb204, 2, none⟩ = some (.bool false) := (blk_cell BK204.out 2).trans rfl; have hcz31_3 : w29.cell? ⟨gb204, 3, none⟩ = some (.string (⟨#[]⟩ : ByteArray)) := (blk_cell BK204.out 3).trans rfl; have hfz31_0 := blk_frozen BK204.out 0; have hfz31_1 := blk_frozen BK204.out 1; have hfz31_2 := blk_frozen BK204.out 2; have hfz31_3 := blk_frozen BK204.out 3; obtain ⟨Ao32, co32, eo32⟩ := Kd.V_slice HO201.out; subst eo32))
          have n0_ : Aside0 (Kd.V Kd.string 9 ((((w29.setCell ⟨gb204, 0, none⟩ (.slice Ao30 t196.length co30)).setCell ⟨gb204, 1, none⟩ (.slice Ao32 t199.length co32)).setCell ⟨gb204, 2, none⟩ (.bool t202)).setCell ⟨gb204, 3, none⟩ (.string t203)) w.heap.size (fun k_ => k_ ≠ gb204) (.slice Ao30 t196.length co30) t196) := ⟨by (with_reducible repeat (first | apply Kd.V_alloc | apply Kd.V_drewN | apply Kd.V_drew)); exact Kd.V_mono (Kd.V_far (p := ⟨gb204, 3, none⟩) (Kd.V_far (p := ⟨gb204, 2, none⟩) (Kd.V_far (p := ⟨gb204, 1, none⟩) (Kd.V_far (p := ⟨gb204, 0, none⟩) (Kd.V_mono HO198.out (fun k_ hk => (⟨hk, hk.2⟩ : _ ∧ k_ ≠ gb204))) (fun _ hk => hk.2) (.slice Ao30 t196.length co30)) (fun _ hk => hk.2) (.slice Ao32 t199.length co32)) (fun _ hk => hk.2) (.bool t202)) (fun _ hk => hk.2) (.string t203)) (fun _ hk => hk.1.2)⟩
          have n1_ : Aside0 (Kd.V k39 39 ((((w29.setCell ⟨gb204, 0, none⟩ (.slice Ao30 t196.length co30)).setCell ⟨gb204, 1, none⟩ (.slice Ao32 t199.length co32)).setCell ⟨gb204, 2, none⟩ (.bool t202)).setCell ⟨gb204, 3, none⟩ (.string t203)) w.heap.size (fun k_ => k_ ≠ gb204) (.slice Ao32 t199.length co32) t199) := ⟨by (with_reducible repeat (first | apply Kd.V_alloc | apply Kd.V_drewN | apply Kd.V_drew)); exact Kd.V_mono (Kd.V_far (p := ⟨gb204, 3, none⟩) (Kd.V_far (p := ⟨gb204, 2, none⟩) (Kd.V_far (p := ⟨gb204, 1, none⟩) (Kd.V_far (p := ⟨gb204, 0, none⟩) (Kd.V_mono HO201.out (fun k_ hk => (⟨hk, hk.2⟩ : _ ∧ k_ ≠ gb204))) (fun _ hk => hk.2) (.slice Ao30 t196.length co30)) (fun _ hk => hk.2) (.slice Ao32 t199.length co32)) (fun _ hk => hk.2) (.bool t202)) (fun _ hk => hk.2) (.string t203)) (fun _ hk => hk.1.2)⟩
          have n2_ : Aside0 (((((w29.setCell ⟨gb204, 0, none⟩ (.slice Ao30 t196.length co30)).setCell ⟨gb204, 1, none⟩ (.slice Ao32 t199.length co32)).setCell ⟨gb204, 2, none⟩ (.bool t202)).setCell ⟨gb204, 3, none⟩ (.string t203)).heap[gb204]? = some (.cells #[.slice Ao30 t196.length co30, .slice Ao32 t199.length co32, .bool t202, .string t203] 30 (0, 0))) := ⟨by (with_reducible repeat (first | refine blk_drewN ?_ _ | refine blk_drew ?_ | refine blk_alloc ?_ _)); refine blk_put (cs := #[.slice Ao30 t196.length co30, .slice Ao32 t199.length co32, .bool t202, .string (⟨#[]⟩ : ByteArray)]) ?_ 3 _ rfl; (with_reducible repeat (first | refine blk_drewN ?_ _ | refine blk_drew ?_ | refine blk_alloc ?_ _)); refine blk_put (cs := #[.slice Ao30 t196.length co30, .slice Ao32 t199.length co32, .bool false, .string (⟨#[]⟩ : ByteArray)]) ?_ 2 _ rfl; (with_reducible repeat (first | refine blk_drewN ?_ _ | refine blk_drew ?_ | refine blk_alloc ?_ _)); refine blk_put (cs := #[.slice Ao30 t196.length co30, .slice none 0 0, .bool false, .string (⟨#[]⟩ : ByteArray)]) ?_ 1 _ rfl; (with_reducible repeat (first | refine blk_drewN ?_ _ | refine blk_drew ?_ | refine blk_alloc ?_ _)); refine blk_put (cs := #[.slice none 0 0, .slice none 0 0, .bool false, .string (⟨#[]⟩ : ByteArray)]) ?_ 0 _ rfl; (with_reducible repeat (first | refine blk_drewN ?_ _ | refine blk_drew ?_ | refine blk_alloc ?_ _)); exact BK204.out⟩
          have n3_ : Aside0 (Below w.heap.size w ((((w29.setCell ⟨gb204, 0, none⟩ (.slice Ao30 t196.length co30)).setCell ⟨gb204, 1, none⟩ (.slice Ao32 t199.length co32)).setCell ⟨gb204, 2, none⟩ (.bool t202)).setCell ⟨gb204, 3, none⟩ (.string t203))) := ⟨by repeat (first | (with_reducible first | exact HB.out | apply below_alloc | apply pw_below_drewN | apply below_drew1 | refine below_set ?_ GE204.out) | exact HB.out)⟩
          (try clear HO198)
          (try clear HO201)
          (try clear BK204)
          (try clear HB)
          generalize ((((w29.setCell ⟨gb204, 0, none⟩ (.slice Ao30 t196.length co30)).setCell ⟨gb204, 1, none⟩ (.slice Ao32 t199.length co32)).setCell ⟨gb204, 2, none⟩ (.bool t202)).setCell ⟨gb204, 3, none⟩ (.string t203)) = w33 at n0_ n1_ n2_ n3_ ⊢
          have HO198 := n0_
          have HO201 := n1_
          have BK204 := n2_
          have HB := n3_
          clear n0_ n1_ n2_ n3_
          have n0_ := Aside0.mk (Kd.V_drew HO198.out)
          have n1_ := Aside0.mk (Kd.V_drew HO201.out)
          have n2_ := Aside0.mk (blk_drew BK204.out)
          have n3_ := Aside0.mk (below_drew1 HB.out)
          clear HO198
          clear HO201
          clear BK204
          clear HB
          have HO198 := n0_
          have HO201 := n1_
          have BK204 := n2_
          have HB := n3_
          clear n0_ n1_ n2_ n3_
          refine start_ (n := 19) (S := fun w' => w'.cell? ⟨gb204, 0, none⟩ = some (.slice Ao30 t196.length co30) ∧ w'.cell? ⟨gb204, 1, none⟩ = some (.slice Ao32 t199.length co32) ∧ w'.cell? ⟨gb204, 2, none⟩ = some (.bool t202) ∧ w'.cell? ⟨gb204, 3, none⟩ = some (.string t203)) (ds := []) #[false, false, false, false, false, false, false, false, false, false, false, false, false, false, false, false, false, false, false] (by kernel_rfl) rfl rfl ⟨(blk_cell BK204.out 0).trans rfl, (blk_cell BK204.out 1).trans rfl, (blk_cell BK204.out 2).trans rfl, (blk_cell BK204.out 3).trans rfl⟩ (fun hHeld => ?_); refine with_tabW doorkeeperlaw22_AclGrants.tab4 doorkeeperlaw22_AclGrants.bits4 (fun HT_ HW_ => ?_)
          generalize w33.drew = w34 at HO198 HO201 BK204 HB hHeld ⊢
          refine pure_ (i := 1) (N := some 37) (v := ?_) (a' := ?_) #[false, true, false, false, false, false, false, false, false, false, false, false, false, false, false, false, false, false, false] rfl rfl (any_of HT_.out (by kernel_rfl)) (fun _ _ _ h => h) (Or.inl ⟨by rfl, ?_⟩) ?_ ?_
          rotate_left
          · intro w'
            go_simp
            with_reducible rfl
          rotate_left
          · simp only [Act.put, List.setIfInBounds_toArray, List.set_cons_zero, List.set_cons_succ, i64_w, i32_w]
            rfl
          refine pure_ (i := 2) (N := some 38) (v := ?_) (a' := ?_) #[false, true, true, false, false, false, false, false, false, false, false, false, false, false, false, false, false, false, false] rfl rfl (any_of HT_.out (by kernel_rfl)) (fun _ _ _ h => h) (Or.inl ⟨by rfl, ?_⟩) ?_ ?_
          rotate_left
          · intro w'
            go_simp
            with_reducible rfl
          rotate_left
          · simp only [Act.put, List.setIfInBounds_toArray, List.set_cons_zero, List.set_cons_succ, i64_w, i32_w]
            rfl
          refine pure_ (i := 5) (N := some 41) (v := ?_) (a' := ?_) #[false, true, true, false, false, true, false, false, false, false, false, false, false, false, false, false, false, false, false] rfl rfl (any_of HT_.out (by kernel_rfl)) (fun _ _ _ h => h) (Or.inl ⟨by rfl, ?_⟩) ?_ ?_
          rotate_left
          · intro w'
            go_simp
            with_reducible rfl
          rotate_left
          · simp only [Act.put, List.setIfInBounds_toArray, List.set_cons_zero, List.set_cons_succ, i64_w, i32_w]
            rfl
          refine pure_ (i := 6) (N := some 42) (v := ?_) (a' := ?_) #[false, true, true, false, false, true, true, false, false, false, false, false, false, false, false, false, false, false, false] rfl rfl (any_of HT_.out (by kernel_rfl)) (fun _ _ _ h => h) (Or.inl ⟨by rfl, ?_⟩) ?_ ?_
          rotate_left
          · intro w'
            go_simp
            with_reducible rfl
          rotate_left
          · simp only [Act.put, List.setIfInBounds_toArray, List.set_cons_zero, List.set_cons_succ, i64_w, i32_w]
            rfl
          refine take_ (i := 0) (N := some 36) (v := ?_) (a' := ?_) #[true, true, true, false, false, true, true, false, false, false, false, false, false, false, false, false, false, false, false] rfl rfl (take_ofW HT_.out HW_.out (by kernel_rfl)) (fun _ _ _ h => h) (Or.inl ⟨by rfl, ?_⟩) hHeld ?_ ?_
          rotate_left
          · rintro w' ⟨s0, s1, s2, s3⟩
            go_simp
            with_reducible rfl
          rotate_left
          · simp only [Act.put, List.setIfInBounds_toArray, List.set_cons_zero, List.set_cons_succ, i64_w, i32_w]
            rfl
          refine take_ (i := 4) (N := some 40) (v := ?_) (a' := ?_) #[true, true, true, false, true, true, true, false, false, false, false, false, false, false, false, false, false, false, false] rfl rfl (take_ofW HT_.out HW_.out (by kernel_rfl)) (fun _ _ _ h => h) (Or.inl ⟨by rfl, ?_⟩) hHeld ?_ ?_
          rotate_left
          · rintro w' ⟨s0, s1, s2, s3⟩
            go_simp
            with_reducible rfl
          rotate_left
          · simp only [Act.put, List.setIfInBounds_toArray, List.set_cons_zero, List.set_cons_succ, i64_w, i32_w]
            rfl
          refine one_ (i := 3) (N := some 39) #[true, true, true, true, true, true, true, false, false, false, false, false, false, false, false, false, false, false, false] rfl rfl (one_of HT_.out (by kernel_rfl)) (by decide) (fun K hK => ?_)
          refine goes_ Tryd.func20 (by kernel_rfl) rfl #[.agg #[.slice Ao30 t196.length co30, .slice Ao32 t199.length co32, .bool t202, .string t203], .string a2, .string a3] (by rfl) rfl rfl (by (try simp only [List.map_toArray, List.map_cons, List.map_nil]); first | done | rfl | (simp only [List.length_drop, List.length_take]; rfl)) ?_
          with_reducible refine (acl_Granted.calls kj4 _ _ t196 _ _ t199 t202 t203 a2 a3 t205 _ ?side1 ?side2 ?side3 ?side4 A22.out ?sideL).mono ?_
          (case sideL => first | exact HL.out.below (by repeat (first | (with_reducible first | exact HB.out | apply below_alloc | apply pw_below_drewN | apply below_drew1) | exact HB.out)) | exact (HL.out.below (by repeat (first | (with_reducible first | exact HB.out | apply below_alloc | apply pw_below_drewN | apply below_drew1) | exact HB.out))).1 | exact (HL.out.below (by repeat (first | (with_reducible first | exact HB.out | apply below_alloc | apply pw_below_drewN | apply below_drew1) | exact HB.out))).2)
          (case side1 => repeat (first | exact (Kd.V_reads' HO198.out).2.2 | (with_reducible refine Kd.C_alloc ?_ _) | (with_reducible refine Kd.C_drewN ?_ _) | (with_reducible refine Kd.C_drew ?_)))
          (case side2 => exact (Kd.V_reads' HO198.out).2.1)
          (case side3 => repeat (first | exact (Kd.V_reads' HO201.out).2.2 | (with_reducible refine Kd.C_alloc ?_ _) | (with_reducible refine Kd.C_drewN ?_ _) | (with_reducible refine Kd.C_drew ?_)))
          (case side4 => exact (Kd.V_reads' HO201.out).2.1)
          rintro e w35 ⟨rfl, hb⟩
          refine ⟨_, rfl, ?_⟩
          have n0_ := Aside0.mk (Kd.V_below (by (with_reducible repeat (first | apply Kd.V_alloc | apply Kd.V_drewN | apply Kd.V_drew)); exact HO198.out) hb)
          have n1_ := Aside0.mk (Kd.V_below (by (with_reducible repeat (first | apply Kd.V_alloc | apply Kd.V_drewN | apply Kd.V_drew)); exact HO201.out) hb)
          have n2_ := Aside0.mk (blk_below (g := gb204) (o := .cells #[.slice Ao30 t196.length co30, .slice Ao32 t199.length co32, .bool t202, .string t203] 30 (0, 0)) (by (with_reducible repeat (first | refine blk_drewN ?_ _ | refine blk_drew ?_ | refine blk_alloc ?_ _)); exact BK204.out) hb)
          have n3_ := Aside0.mk (below_step (by repeat (first | (with_reducible first | exact HB.out | apply below_alloc | apply pw_below_drewN | apply below_drew1 | refine below_set ?_ GE204.out) | exact HB.out)) hb)
          clear HO198
          clear HO201
          clear BK204
          clear HB
          have HO198 := n0_
          have HO201 := n1_
          have BK204 := n2_
          have HB := n3_
          clear n0_ n1_ n2_ n3_
          (try clear hb)
          (try clear hb2)
          (try clear hk)
          (try clear hi)
          refine hK.out _ _ ⟨(blk_cell BK204.out 0).trans rfl, (blk_cell BK204.out 1).trans rfl, (blk_cell BK204.out 2).trans rfl, (blk_cell BK204.out 3).trans rfl⟩ (fun hHeld => ?_)
          clear hK K
          refine norm_ (a' := ?_) ?_ ?_
          rotate_left
          · show Act.put _ (some 39) _ = _
            simp only [Act.put, List.setIfInBounds_toArray, List.set_cons_zero, List.set_cons_succ, i64_w, i32_w]
            rfl
          refine one_ (i := 7) (N := some 43) #[true, true, true, true, true, true, true, true, false, false, false, false, false, false, false, false, false, false, false] rfl rfl (one_of HT_.out (by kernel_rfl)) (by decide) (fun K hK => ?_)
          refine goes_ Tryd.func21 (by kernel_rfl) rfl #[.agg #[.slice Ao30 t196.length co30, .slice Ao32 t199.length co32, .bool t202, .string t203], .string a2, .string a3] (by rfl) rfl rfl (by (try simp only [List.map_toArray, List.map_cons, List.map_nil]); first | done | rfl | (simp only [List.length_drop, List.length_take]; rfl)) ?_
          with_reducible refine (doorkeeperref22_Granted.calls kj4 _ _ t196 _ _ t199 t202 t203 a2 a3 t206 _ ?side1 ?side2 ?side3 ?side4 A23.out).mono ?_
          (case side1 => repeat (first | exact (Kd.V_reads' HO198.out).2.2 | (with_reducible refine Kd.C_alloc ?_ _) | (with_reducible refine Kd.C_drewN ?_ _) | (with_reducible refine Kd.C_drew ?_)))
          (case side2 => exact (Kd.V_reads' HO198.out).2.1)
          (case side3 => repeat (first | exact (Kd.V_reads' HO201.out).2.2 | (with_reducible refine Kd.C_alloc ?_ _) | (with_reducible refine Kd.C_drewN ?_ _) | (with_reducible refine Kd.C_drew ?_)))
          (case side4 => exact (Kd.V_reads' HO201.out).2.1)
          rintro e w36 ⟨rfl, hb⟩
          refine ⟨_, rfl, ?_⟩
          have n0_ := Aside0.mk (Kd.V_below (by (with_reducible repeat (first | apply Kd.V_alloc | apply Kd.V_drewN | apply Kd.V_drew)); exact HO198.out) hb)
          have n1_ := Aside0.mk (Kd.V_below (by (with_reducible repeat (first | apply Kd.V_alloc | apply Kd.V_drewN | apply Kd.V_drew)); exact HO201.out) hb)
          have n2_ := Aside0.mk (blk_below (g := gb204) (o := .cells #[.slice Ao30 t196.length co30, .slice Ao32 t199.length co32, .bool t202, .string t203] 30 (0, 0)) (by (with_reducible repeat (first | refine blk_drewN ?_ _ | refine blk_drew ?_ | refine blk_alloc ?_ _)); exact BK204.out) hb)
          have n3_ := Aside0.mk (below_step (by repeat (first | (with_reducible first | exact HB.out | apply below_alloc | apply pw_below_drewN | apply below_drew1 | refine below_set ?_ GE204.out) | exact HB.out)) hb)
          clear HO198
          clear HO201
          clear BK204
          clear HB
          have HO198 := n0_
          have HO201 := n1_
          have BK204 := n2_
          have HB := n3_
          clear n0_ n1_ n2_ n3_
          (try clear hb)
          (try clear hb2)
          (try clear hk)
          (try clear hi)
          refine hK.out _ _ ⟨(blk_cell BK204.out 0).trans rfl, (blk_cell BK204.out 1).trans rfl, (blk_cell BK204.out 2).trans rfl, (blk_cell BK204.out 3).trans rfl⟩ (fun hHeld => ?_)
          clear hK K
          refine norm_ (a' := ?_) ?_ ?_
          rotate_left
          · show Act.put _ (some 43) _ = _
            simp only [Act.put, List.setIfInBounds_toArray, List.set_cons_zero, List.set_cons_succ, i64_w, i32_w]
            rfl
          refine pure_ (i := 8) (N := some 44) (v := ?_) (a' := ?_) #[true, true, true, true, true, true, true, true, true, false, false, false, false, false, false, false, false, false, false] rfl rfl (any_of HT_.out (by kernel_rfl)) (fun _ _ _ h => h) (Or.inl ⟨by rfl, ?_⟩) ?_ ?_
          rotate_left
          · intro w'
            go_simp
            with_reducible rfl
          rotate_left
          · simp only [Act.put, List.setIfInBounds_toArray, List.set_cons_zero, List.set_cons_succ, i64_w, i32_w]
            rfl
          refine pure_ (i := 9) (N := some 45) (v := ?_) (a' := ?_) #[true, true, true, true, true, true, true, true, true, true, false, false, false, false, false, false, false, false, false] rfl rfl (any_of HT_.out (by kernel_rfl)) (fun _ _ _ h => h) (Or.inl ⟨by rfl, ?_⟩) ?_ ?_
          rotate_left
          · intro w'
            go_simp
            with_reducible rfl
          rotate_left
          · simp only [Act.put, List.setIfInBounds_toArray, List.set_cons_zero, List.set_cons_succ, i64_w, i32_w]
            rfl
          refine pure_ (i := 11) (N := some 47) (v := ?_) (a' := ?_) #[true, true, true, true, true, true, true, true, true, true, false, true, false, false, false, false, false, false, false] rfl rfl (any_of HT_.out (by kernel_rfl)) (fun _ _ _ h => h) (Or.inl ⟨by rfl, ?_⟩) ?_ ?_
          rotate_left
          · intro w'
            go_simp
            with_reducible rfl
          rotate_left
          · simp only [Act.put, List.setIfInBounds_toArray, List.set_cons_zero, List.set_cons_succ, i64_w, i32_w]
            rfl
          refine pure_ (i := 14) (N := some 50) (v := ?_) (a' := ?_) #[true, true, true, true, true, true, true, true, true, true, false, true, false, false, true, false, false, false, false] rfl rfl (any_of HT_.out (by kernel_rfl)) (fun _ _ _ h => h) (Or.inl ⟨by rfl, ?_⟩) ?_ ?_
          rotate_left
          · intro w'
            go_simp
            with_reducible rfl
          rotate_left
          · simp only [Act.put, List.setIfInBounds_toArray, List.set_cons_zero, List.set_cons_succ, i64_w, i32_w]
            rfl
          refine take_ (i := 10) (N := some 46) (v := ?_) (a' := ?_) #[true, true, true, true, true, true, true, true, true, true, true, true, false, false, true, false, false, false, false] rfl rfl (take_ofW HT_.out HW_.out (by kernel_rfl)) (fun _ _ _ h => h) (Or.inl ⟨by rfl, ?_⟩) hHeld ?_ ?_
          rotate_left
          · rintro w' ⟨s0, s1, s2, s3⟩
            go_simp
            with_reducible rfl
          rotate_left
          · simp only [Act.put, List.setIfInBounds_toArray, List.set_cons_zero, List.set_cons_succ, i64_w, i32_w]
            rfl
          refine take_ (i := 13) (N := some 49) (v := ?_) (a' := ?_) #[true, true, true, true, true, true, true, true, true, true, true, true, false, true, true, false, false, false, false] rfl rfl (take_ofW HT_.out HW_.out (by kernel_rfl)) (fun _ _ _ h => h) (Or.inl ⟨by rfl, ?_⟩) hHeld ?_ ?_
          rotate_left
          · rintro w' ⟨s0, s1, s2, s3⟩
            go_simp
            with_reducible rfl
          rotate_left
          · simp only [Act.put, List.setIfInBounds_toArray, List.set_cons_zero, List.set_cons_succ, i64_w, i32_w]
            rfl
          refine one_ (i := 12) (N := some 48) #[true, true, true, true, true, true, true, true, true, true, true, true, true, true, true, false, false, false, false] rfl rfl (one_of HT_.out (by kernel_rfl)) (by decide) (fun K hK => ?_)
          refine goes_ Tryd.func23 (by kernel_rfl) rfl #[.agg #[.slice Ao30 t196.length co30, .slice Ao32 t199.length co32, .bool t202, .string t203], .string a2] (by rfl) rfl rfl (by (try simp only [List.map_toArray, List.map_cons, List.map_nil]); first | done | rfl | (simp only [List.length_drop, List.length_take]; rfl)) ?_
          with_reducible refine (acl_Methods.calls kj4 _ _ t196 _ _ t199 t202 t203 a2 t207 _ ?side1 ?side2 ?side3 ?side4 A25.out ?sideL).mono ?_
          (case sideL => first | exact HL.out.below (by repeat (first | (with_reducible first | exact HB.out | apply below_alloc | apply pw_below_drewN | apply below_drew1) | exact HB.out)) | exact (HL.out.below (by repeat (first | (with_reducible first | exact HB.out | apply below_alloc | apply pw_below_drewN | apply below_drew1) | exact HB.out))).1 | exact (HL.out.below (by repeat (first | (with_reducible first | exact HB.out | apply below_alloc | apply pw_below_drewN | apply below_drew1) | exact HB.out))).2)
          (case side1 => repeat (first | exact (Kd.V_reads' HO198.out).2.2 | (with_reducible refine Kd.C_alloc ?_ _) | (with_reducible refine Kd.C_drewN ?_ _) | (with_reducible refine Kd.C_drew ?_)))
          (case side2 => exact (Kd.V_reads' HO198.out).2.1)
          (case side3 => repeat (first | exact (Kd.V_reads' HO201.out).2.2 | (with_reducible refine Kd.C_alloc ?_ _) | (with_reducible refine Kd.C_drewN ?_ _) | (with_reducible refine Kd.C_drew ?_)))
          (case side4 => exact (Kd.V_reads' HO201.out).2.1)
          rintro e w37 ⟨v208, rfl, ho0, hb⟩
          refine ⟨_, rfl, ?_⟩
          have n0_ := Aside0.mk (Kd.V_elder' (by (with_reducible repeat (first | apply Kd.V_alloc | apply Kd.V_drewN | apply Kd.V_drew)); exact HO198.out) (Kd.R_base ho0) hb)
          have n1_ := Aside0.mk (Kd.V_elder' (by (with_reducible repeat (first | apply Kd.V_alloc | apply Kd.V_drewN | apply Kd.V_drew)); exact HO201.out) (Kd.R_base ho0) hb)
          have n2_ := Aside0.mk (Kd.R_lower ho0 (below_size (by repeat (first | (with_reducible first | exact HB.out | apply below_alloc | apply pw_below_drewN | apply below_drew1 | refine below_set ?_ GE204.out) | exact HB.out))))
          have n3_ := Aside0.mk (blk_below (g := gb204) (o := .cells #[.slice Ao30 t196.length co30, .slice Ao32 t199.length co32, .bool t202, .string t203] 30 (0, 0)) (by (with_reducible repeat (first | refine blk_drewN ?_ _ | refine blk_drew ?_ | refine blk_alloc ?_ _)); exact BK204.out) hb)
          have n4_ := Aside0.mk (below_step (by repeat (first | (with_reducible first | exact HB.out | apply below_alloc | apply pw_below_drewN | apply below_drew1 | refine below_set ?_ GE204.out) | exact HB.out)) hb)
          clear HO198
          clear HO201
          clear BK204
          clear HB
          have HO198 := n0_
          have HO201 := n1_
          have HO209 := n2_
          have BK204 := n3_
          have HB := n4_
          clear n0_ n1_ n2_ n3_ n4_
          (try clear hb)
          (try clear hb2)
          (try clear hk)
          (try clear hi)
          (try clear ho0)
          refine hK.out _ _ ⟨(blk_cell BK204.out 0).trans rfl, (blk_cell BK204.out 1).trans rfl, (blk_cell BK204.out 2).trans rfl, (blk_cell BK204.out 3).trans rfl⟩ (fun hHeld => ?_)
          clear hK K
          refine norm_ (a' := ?_) ?_ ?_
          rotate_left
          · show Act.put _ (some 48) _ = _
            simp only [Act.put, List.setIfInBounds_toArray, List.set_cons_zero, List.set_cons_succ, i64_w, i32_w]
            rfl
          refine one_ (i := 15) (N := some 51) #[true, true, true, true, true, true, true, true, true, true, true, true, true, true, true, true, false, false, false] rfl rfl (one_of HT_.out (by kernel_rfl)) (by decide) (fun K hK => ?_)
          refine goes_ Tryd.func24 (by kernel_rfl) rfl #[.agg #[.slice Ao30 t196.length co30, .slice Ao32 t199.length co32, .bool t202, .string t203], .string a2] (by rfl) rfl rfl (by (try simp only [List.map_toArray, List.map_cons, List.map_nil]); first | done | rfl | (simp only [List.length_drop, List.length_take]; rfl)) ?_
          with_reducible refine (doorkeeperref22_Methods.calls kj4 _ _ t196 _ _ t199 t202 t203 a2 t210 _ ?side1 ?side2 ?side3 ?side4 A26.out).mono ?_
          (case side1 => repeat (first | exact (Kd.V_reads' HO198.out).2.2 | (with_reducible refine Kd.C_alloc ?_ _) | (with_reducible refine Kd.C_drewN ?_ _) | (with_reducible refine Kd.C_drew ?_)))
          (case side2 => exact (Kd.V_reads' HO198.out).2.1)
          (case side3 => repeat (first | exact (Kd.V_reads' HO201.out).2.2 | (with_reducible refine Kd.C_alloc ?_ _) | (with_reducible refine Kd.C_drewN ?_ _) | (with_reducible refine Kd.C_drew ?_)))
          (case side4 => exact (Kd.V_reads' HO201.out).2.1)
          rintro e w38 ⟨v211, rfl, ho0, hb⟩
          refine ⟨_, rfl, ?_⟩
          have n0_ := Aside0.mk (Kd.V_elder' (by (with_reducible repeat (first | apply Kd.V_alloc | apply Kd.V_drewN | apply Kd.V_drew)); exact HO198.out) (Kd.R_base ho0) hb)
          have n1_ := Aside0.mk (Kd.V_elder' (by (with_reducible repeat (first | apply Kd.V_alloc | apply Kd.V_drewN | apply Kd.V_drew)); exact HO201.out) (Kd.R_base ho0) hb)
          have n2_ := Aside0.mk (Kd.R_elder' (by (with_reducible repeat (first | apply Kd.R_alloc | apply Kd.R_drewN | apply Kd.R_drew)); exact HO209.out) (Kd.R_base ho0) hb)
          have n3_ := Aside0.mk (Kd.R_lower (Kd.R_new' ho0 (Kd.R_lt (by (with_reducible repeat (first | apply Kd.R_alloc | apply Kd.R_drewN | apply Kd.R_drew)); exact HO209.out))) (below_size (by repeat (first | (with_reducible first | exact HB.out | apply below_alloc | apply pw_below_drewN | apply below_drew1 | refine below_set ?_ GE204.out) | exact HB.out))))
          have n4_ := Aside0.mk (blk_below (g := gb204) (o := .cells #[.slice Ao30 t196.length co30, .slice Ao32 t199.length co32, .bool t202, .string t203] 30 (0, 0)) (by (with_reducible repeat (first | refine blk_drewN ?_ _ | refine blk_drew ?_ | refine blk_alloc ?_ _)); exact BK204.out) hb)
          have n5_ := Aside0.mk (below_step (by repeat (first | (with_reducible first | exact HB.out | apply below_alloc | apply pw_below_drewN | apply below_drew1 | refine below_set ?_ GE204.out) | exact HB.out)) hb)
          clear HO198
          clear HO201
          clear HO209
          clear BK204
          clear HB
          have HO198 := n0_
          have HO201 := n1_
          have HO209 := n2_
          have HO212 := n3_
          have BK204 := n4_
          have HB := n5_
          clear n0_ n1_ n2_ n3_ n4_ n5_
          (try clear hb)
          (try clear hb2)
          (try clear hk)
          (try clear hi)
          (try clear ho0)
          obtain ⟨Ao39, co39, eo39⟩ := Kd.R_slice HO209.out
          (first | subst eo39 | (injection eo39 with f1_ f2_ f3_; have f4_ := f1_.symm; have f5_ := f3_.symm; clear f1_ f2_ f3_; subst f4_; subst f5_))
          obtain ⟨Ao40, co40, eo40⟩ := Kd.R_slice HO212.out
          (first | subst eo40 | (injection eo40 with f1_ f2_ f3_; have f4_ := f1_.symm; have f5_ := f3_.symm; clear f1_ f2_ f3_; subst f4_; subst f5_))
          refine hK.out _ _ ⟨(blk_cell BK204.out 0).trans rfl, (blk_cell BK204.out 1).trans rfl, (blk_cell BK204.out 2).trans rfl, (blk_cell BK204.out 3).trans rfl⟩ (fun hHeld => ?_)
          clear hK K
          refine norm_ (a' := ?_) ?_ ?_
          rotate_left
          · show Act.put _ (some 51) _ = _
            simp only [Act.put, List.setIfInBounds_toArray, List.set_cons_zero, List.set_cons_succ, i64_w, i32_w]
            rfl
          refine one_ (i := 16) (N := some 52) #[true, true, true, true, true, true, true, true, true, true, true, true, true, true, true, true, true, false, false] rfl rfl (one_of HT_.out (by kernel_rfl)) (by decide) (fun K hK => ?_)
          refine goes_ Tryd.func22 (by kernel_rfl) rfl #[.slice Ao39 t207.length co39, .slice Ao40 t210.length co40] (by rfl) rfl rfl (by (try simp only [List.map_toArray, List.map_cons, List.map_nil]); first | done | rfl | (simp only [List.length_drop, List.length_take]; rfl)) ?_
          with_reducible refine (doorkeeperref09_Texts.calls kj4 _ _ t207 _ _ t210 t213 _ ?side1 ?side2 ?side3 ?side4 A27.out).mono ?_
          (case side1 => repeat (first | exact (Kd.R_reads' HO209.out).2.2 | (with_reducible refine Kd.C_alloc ?_ _) | (with_reducible refine Kd.C_drewN ?_ _) | (with_reducible refine Kd.C_drew ?_)))
          (case side2 => exact (Kd.R_reads' HO209.out).2.1)
          (case side3 => repeat (first | exact (Kd.R_reads' HO212.out).2.2 | (with_reducible refine Kd.C_alloc ?_ _) | (with_reducible refine Kd.C_drewN ?_ _) | (with_reducible refine Kd.C_drew ?_)))
          (case side4 => exact (Kd.R_reads' HO212.out).2.1)
          rintro e w' ⟨rfl, ⟨nd, rfl⟩⟩
          refine ⟨_, rfl, ?_⟩
          refine hK.out _ _ ⟨(blk_cell BK204.out 0).trans rfl, (blk_cell BK204.out 1).trans rfl, (blk_cell BK204.out 2).trans rfl, (blk_cell BK204.out 3).trans rfl⟩ (fun hHeld => ?_)
          clear hK K
          refine norm_ (a' := ?_) ?_ ?_
          rotate_left
          · show Act.put _ (some 52) _ = _
            simp only [Act.put, List.setIfInBounds_toArray, List.set_cons_zero, List.set_cons_succ, i64_w, i32_w]
            rfl
          refine pure_ (i := 17) (N := some 53) (v := ?_) (a' := ?_) #[true, true, true, true, true, true, true, true, true, true, true, true, true, true, true, true, true, true, false] rfl rfl (any_of HT_.out (by kernel_rfl)) (fun _ _ _ h => h) (Or.inl ⟨by rfl, ?_⟩) ?_ ?_
          rotate_left
          · intro w'
            go_simp
            with_reducible rfl
          rotate_left
          · simp only [Act.put, List.setIfInBounds_toArray, List.set_cons_zero, List.set_cons_succ, i64_w, i32_w]
            rfl
          refine pure_ (i := 18) (N := some 8) (v := ?_) (a' := ?_) #[true, true, true, true, true, true, true, true, true, true, true, true, true, true, true, true, true, true, true] rfl rfl (any_of HT_.out (by kernel_rfl)) (fun _ _ _ h => h) (Or.inl ⟨by rfl, ?_⟩) ?_ ?_
          rotate_left
          · intro w'
            go_simp
            with_reducible rfl
          rotate_left
          · simp only [Act.put, List.setIfInBounds_toArray, List.set_cons_zero, List.set_cons_succ, i64_w, i32_w]
            rfl
          refine done_ (done_of HT_.out (by kernel_rfl)) ?_
          try go_wp2
          go_ret
          exact ⟨by first | rfl | (simp [errW_none, errW_some] <;> rfl) | (simp [*, errW_none, errW_some] <;> rfl), by repeat (first | (with_reducible first | exact HB.out | apply below_alloc | apply pw_below_drewN | apply below_drew1 | refine below_set ?_ GE204.out) | exact HB.out)⟩
        · rw [if_neg c24] at H
          have c24b0 : (t205 == t206) = false := by simpa using c24
          (try (have c24b1 : decide (t205 = t206) = false := by simpa using c24))
          (try (have c24b2 : (t205 == t206) = false := by simpa using c24))
          (try (have c24b3 : ¬ (t205 = t206) := by simpa using c24))
          clear c24
          obtain rfl := Option.some.inj H
          try go_wp2_with (first | ((with_reducible refine gate_callee (f := 17) rfl ?_); refine goesL_ (some 35) rfl rfl Tryd.func17 (by kernel_rfl) rfl #[.slice A0 l0.length c0, .slice A1 l1.length c1] rfl (by (try simp only [List.map_toArray, List.map_cons, List.map_nil]); first | done | rfl | (simp only [List.length_drop, List.length_take]; rfl)) ?_; (with_reducible refine (doorkeeperref22_Match.calls kj4 (fun k_ => k_ < w.heap.size) _ _ l0 _ _ l1 t196 t199 t202 t203 _ ?side1 ?side2 ?side3 A21.out).mono ?_); (case side1 => exact Kd.V_mk HC0.out (Kd.F_below (Kd.C_F k30_heap HR0.out) (by repeat (first | (with_reducible first | exact HB.out | apply below_alloc | apply pw_below_drewN | apply below_drew1) | exact HB.out)))); (case side2 => repeat (first | exact (Kd.C_below HR1.out HB.out) | (with_reducible refine Kd.C_alloc ?_ _) | (with_reducible refine Kd.C_drewN ?_ _) | (with_reducible refine Kd.C_drew ?_))); (case side3 => exact HC1.out); rintro e w41 ⟨v197, v200, rfl, ho0, ho1, hb⟩; refine ⟨_, rfl, ?_⟩; have n0_ := Aside0.mk (Kd.V_lower (Kd.V_mono (ok' := fun k_ => True) ho0 (fun k_ hk_ => trivial)) (below_size (by repeat (first | (with_reducible first | exact HB.out | apply below_alloc | apply pw_below_drewN | apply below_drew1) | exact HB.out)))); have n1_ := Aside0.mk (Kd.V_lower (Kd.V_mono (ok' := fun k_ => True) ho1 (fun k_ hk_ => trivial)) (below_size (by repeat (first | (with_reducible first | exact HB.out | apply below_alloc | apply pw_below_drewN | apply below_drew1) | exact HB.out)))); have n2_ := Aside0.mk (below_step (by repeat (first | (with_reducible first | exact HB.out | apply below_alloc | apply pw_below_drewN | apply below_drew1) | exact HB.out)) hb); clear HB; have HO198 := n0_; have HO201 := n1_; have HB := n2_; clear n0_ n1_ n2_; (try clear hb); (try clear hb2); (try clear hk); (try clear hi); (try clear ho0); (try clear ho1)) | ((with_reducible refine gate_dst (N := 9) rfl ?_); (try (refine gate_guard (by rfl) ?_; dsimp only)); refine box_event ?hg (N := 9) ?hd (cs := #[.slice none 0 0, .slice none 0 0, .bool false, .string (⟨#[]⟩ : ByteArray)]) (t := 30) ?hr ?_; (case hd => rfl); (case hg => rfl); (case hr => first | (go_simp; done) | (go_simp; rfl)); intro gb204 hg w42 hbox hb; have n0_ := Aside0.mk (Kd.V_below (Kd.V_elderB (by (with_reducible repeat (first | apply Kd.V_alloc | apply Kd.V_drewN | apply Kd.V_drew)); exact HO198.out) gb204 (Nat.le_of_eq hg.symm)) hb); have n1_ := Aside0.mk (Kd.V_below (Kd.V_elderB (by (with_reducible repeat (first | apply Kd.V_alloc | apply Kd.V_drewN | apply Kd.V_drew)); exact HO201.out) gb204 (Nat.le_of_eq hg.symm)) hb); have n2_ := Aside0.mk (below_step (by repeat (first | (with_reducible first | exact HB.out | apply below_alloc | apply pw_below_drewN | apply below_drew1) | exact HB.out)) hb); have n3_ := Aside0.mk (hbox); have n4_ := Aside0.mk ((by rw [hg]; exact (below_size (by repeat (first | (with_reducible first | exact HB.out | apply below_alloc | apply pw_below_drewN | apply below_drew1) | exact HB.out))) : w.heap.size ≤ gb204)); have n5_ := Aside0.mk ((by rw [hg]; exact (below_size (by repeat (first | (with_reducible first | exact HB.out | apply below_alloc | apply pw_below_drewN | apply below_drew1) | exact HB.out))) : w.heap.size ≤ gb204)); clear HO198; clear HO201; clear HB; have HO198 := n0_; have HO201 := n1_; have HB := n2_; have BK204 := n3_; have GW204 := n4_; have GE204 := n5_; clear n0_ n1_ n2_ n3_ n4_ n5_; clear hb hbox hg; obtain ⟨Ao43, co43, eo43⟩ := Kd.V_slice HO198.out; subst eo43; have hcz44_0 : w42.cell? ⟨gb204, 0, none⟩ = some (.slice none 0 0) := (blk_cell BK204.out 0).trans rfl; have hcz44_1 : w42.cell? ⟨gb204, 1, none⟩ = some (.slice none 0 0) := (blk_cell BK204.out 1).trans rfl; have hcz44_2 : w42.cell? ⟨gb204, 2, none⟩ = some (.bool false) := (blk_cell BK204.out 2).trans rfl; have hcz44_3 : w42.cell? ⟨gb204, 3, none⟩ = some (.string (⟨#[]⟩ : ByteArray)) := (blk_cell BK204.out 3).trans rfl; have hfz44_0 := blk_frozen BK204.out 0; have hfz44_1 := blk_frozen BK204.out 1; have hfz44_2 := blk_frozen BK204.out 2; have hfz44_3 := blk_frozen BK204.out 3; obtain ⟨Ao45, co45, eo45⟩ := Kd.V_slice HO201.out; subst eo45))
          have n0_ : Aside0 (Kd.V Kd.string 9 ((((w42.setCell ⟨gb204, 0, none⟩ (.slice Ao43 t196.length co43)).setCell ⟨gb204, 1, none⟩ (.slice Ao45 t199.length co45)).setCell ⟨gb204, 2, none⟩ (.bool t202)).setCell ⟨gb204, 3, none⟩ (.string t203)) w.heap.size (fun k_ => k_ ≠ gb204) (.slice Ao43 t196.length co43) t196) := ⟨by (with_reducible repeat (first | apply Kd.V_alloc | apply Kd.V_drewN | apply Kd.V_drew)); exact Kd.V_mono (Kd.V_far (p := ⟨gb204, 3, none⟩) (Kd.V_far (p := ⟨gb204, 2, none⟩) (Kd.V_far (p := ⟨gb204, 1, none⟩) (Kd.V_far (p := ⟨gb204, 0, none⟩) (Kd.V_mono HO198.out (fun k_ hk => (⟨hk, hk.2⟩ : _ ∧ k_ ≠ gb204))) (fun _ hk => hk.2) (.slice Ao43 t196.length co43)) (fun _ hk => hk.2) (.slice Ao45 t199.length co45)) (fun _ hk => hk.2) (.bool t202)) (fun _ hk => hk.2) (.string t203)) (fun _ hk => hk.1.2)⟩
          have n1_ : Aside0 (Kd.V k39 39 ((((w42.setCell ⟨gb204, 0, none⟩ (.slice Ao43 t196.length co43)).setCell ⟨gb204, 1, none⟩ (.slice Ao45 t199.length co45)).setCell ⟨gb204, 2, none⟩ (.bool t202)).setCell ⟨gb204, 3, none⟩ (.string t203)) w.heap.size (fun k_ => k_ ≠ gb204) (.slice Ao45 t199.length co45) t199) := ⟨by (with_reducible repeat (first | apply Kd.V_alloc | apply Kd.V_drewN | apply Kd.V_drew)); exact Kd.V_mono (Kd.V_far (p := ⟨gb204, 3, none⟩) (Kd.V_far (p := ⟨gb204, 2, none⟩) (Kd.V_far (p := ⟨gb204, 1, none⟩) (Kd.V_far (p := ⟨gb204, 0, none⟩) (Kd.V_mono HO201.out (fun k_ hk => (⟨hk, hk.2⟩ : _ ∧ k_ ≠ gb204))) (fun _ hk => hk.2) (.slice Ao43 t196.length co43)) (fun _ hk => hk.2) (.slice Ao45 t199.length co45)) (fun _ hk => hk.2) (.bool t202)) (fun _ hk => hk.2) (.string t203)) (fun _ hk => hk.1.2)⟩
          have n2_ : Aside0 (((((w42.setCell ⟨gb204, 0, none⟩ (.slice Ao43 t196.length co43)).setCell ⟨gb204, 1, none⟩ (.slice Ao45 t199.length co45)).setCell ⟨gb204, 2, none⟩ (.bool t202)).setCell ⟨gb204, 3, none⟩ (.string t203)).heap[gb204]? = some (.cells #[.slice Ao43 t196.length co43, .slice Ao45 t199.length co45, .bool t202, .string t203] 30 (0, 0))) := ⟨by (with_reducible repeat (first | refine blk_drewN ?_ _ | refine blk_drew ?_ | refine blk_alloc ?_ _)); refine blk_put (cs := #[.slice Ao43 t196.length co43, .slice Ao45 t199.length co45, .bool t202, .string (⟨#[]⟩ : ByteArray)]) ?_ 3 _ rfl; (with_reducible repeat (first | refine blk_drewN ?_ _ | refine blk_drew ?_ | refine blk_alloc ?_ _)); refine blk_put (cs := #[.slice Ao43 t196.length co43, .slice Ao45 t199.length co45, .bool false, .string (⟨#[]⟩ : ByteArray)]) ?_ 2 _ rfl; (with_reducible repeat (first | refine blk_drewN ?_ _ | refine blk_drew ?_ | refine blk_alloc ?_ _)); refine blk_put (cs := #[.slice Ao43 t196.length co43, .slice none 0 0, .bool false, .string (⟨#[]⟩ : ByteArray)]) ?_ 1 _ rfl; (with_reducible repeat (first | refine blk_drewN ?_ _ | refine blk_drew ?_ | refine blk_alloc ?_ _)); refine blk_put (cs := #[.slice none 0 0, .slice none 0 0, .bool false, .string (⟨#[]⟩ : ByteArray)]) ?_ 0 _ rfl; (with_reducible repeat (first | refine blk_drewN ?_ _ | refine blk_drew ?_ | refine blk_alloc ?_ _)); exact BK204.out⟩
          have n3_ : Aside0 (Below w.heap.size w ((((w42.setCell ⟨gb204, 0, none⟩ (.slice Ao43 t196.length co43)).setCell ⟨gb204, 1, none⟩ (.slice Ao45 t199.length co45)).setCell ⟨gb204, 2, none⟩ (.bool t202)).setCell ⟨gb204, 3, none⟩ (.string t203))) := ⟨by repeat (first | (with_reducible first | exact HB.out | apply below_alloc | apply pw_below_drewN | apply below_drew1 | refine below_set ?_ GE204.out) | exact HB.out)⟩
          (try clear HO198)
          (try clear HO201)
          (try clear BK204)
          (try clear HB)
          generalize ((((w42.setCell ⟨gb204, 0, none⟩ (.slice Ao43 t196.length co43)).setCell ⟨gb204, 1, none⟩ (.slice Ao45 t199.length co45)).setCell ⟨gb204, 2, none⟩ (.bool t202)).setCell ⟨gb204, 3, none⟩ (.string t203)) = w46 at n0_ n1_ n2_ n3_ ⊢
          have HO198 := n0_
          have HO201 := n1_
          have BK204 := n2_
          have HB := n3_
          clear n0_ n1_ n2_ n3_
          have n0_ := Aside0.mk (Kd.V_drew HO198.out)
          have n1_ := Aside0.mk (Kd.V_drew HO201.out)
          have n2_ := Aside0.mk (blk_drew BK204.out)
          have n3_ := Aside0.mk (below_drew1 HB.out)
          clear HO198
          clear HO201
          clear BK204
          clear HB
          have HO198 := n0_
          have HO201 := n1_
          have BK204 := n2_
          have HB := n3_
          clear n0_ n1_ n2_ n3_
          refine start_ (n := 19) (S := fun w' => w'.cell? ⟨gb204, 0, none⟩ = some (.slice Ao43 t196.length co43) ∧ w'.cell? ⟨gb204, 1, none⟩ = some (.slice Ao45 t199.length co45) ∧ w'.cell? ⟨gb204, 2, none⟩ = some (.bool t202) ∧ w'.cell? ⟨gb204, 3, none⟩ = some (.string t203)) (ds := []) #[false, false, false, false, false, false, false, false, false, false, false, false, false, false, false, false, false, false, false] (by kernel_rfl) rfl rfl ⟨(blk_cell BK204.out 0).trans rfl, (blk_cell BK204.out 1).trans rfl, (blk_cell BK204.out 2).trans rfl, (blk_cell BK204.out 3).trans rfl⟩ (fun hHeld => ?_); refine with_tabW doorkeeperlaw22_AclGrants.tab4 doorkeeperlaw22_AclGrants.bits4 (fun HT_ HW_ => ?_)
          generalize w46.drew = w47 at HO198 HO201 BK204 HB hHeld ⊢
          refine pure_ (i := 1) (N := some 37) (v := ?_) (a' := ?_) #[false, true, false, false, false, false, false, false, false, false, false, false, false, false, false, false, false, false, false] rfl rfl (any_of HT_.out (by kernel_rfl)) (fun _ _ _ h => h) (Or.inl ⟨by rfl, ?_⟩) ?_ ?_
          rotate_left
          · intro w'
            go_simp
            with_reducible rfl
          rotate_left
          · simp only [Act.put, List.setIfInBounds_toArray, List.set_cons_zero, List.set_cons_succ, i64_w, i32_w]
            rfl
          refine pure_ (i := 2) (N := some 38) (v := ?_) (a' := ?_) #[false, true, true, false, false, false, false, false, false, false, false, false, false, false, false, false, false, false, false] rfl rfl (any_of HT_.out (by kernel_rfl)) (fun _ _ _ h => h) (Or.inl ⟨by rfl, ?_⟩) ?_ ?_
          rotate_left
          · intro w'
            go_simp
            with_reducible rfl
          rotate_left
          · simp only [Act.put, List.setIfInBounds_toArray, List.set_cons_zero, List.set_cons_succ, i64_w, i32_w]
            rfl
          refine pure_ (i := 5) (N := some 41) (v := ?_) (a' := ?_) #[false, true, true, false, false, true, false, false, false, false, false, false, false, false, false, false, false, false, false] rfl rfl (any_of HT_.out (by kernel_rfl)) (fun _ _ _ h => h) (Or.inl ⟨by rfl, ?_⟩) ?_ ?_
          rotate_left
          · intro w'
            go_simp
            with_reducible rfl
          rotate_left
          · simp only [Act.put, List.setIfInBounds_toArray, List.set_cons_zero, List.set_cons_succ, i64_w, i32_w]
            rfl
          refine pure_ (i := 6) (N := some 42) (v := ?_) (a' := ?_) #[false, true, true, false, false, true, true, false, false, false, false, false, false, false, false, false, false, false, false] rfl rfl (any_of HT_.out (by kernel_rfl)) (fun _ _ _ h => h) (Or.inl ⟨by rfl, ?_⟩) ?_ ?_
          rotate_left
          · intro w'
            go_simp
            with_reducible rfl
          rotate_left
          · simp only [Act.put, List.setIfInBounds_toArray, List.set_cons_zero, List.set_cons_succ, i64_w, i32_w]
            rfl
          refine take_ (i := 0) (N := some 36) (v := ?_) (a' := ?_) #[true, true, true, false, false, true, true, false, false, false, false, false, false, false, false, false, false, false, false] rfl rfl (take_ofW HT_.out HW_.out (by kernel_rfl)) (fun _ _ _ h => h) (Or.inl ⟨by rfl, ?_⟩) hHeld ?_ ?_
          rotate_left
          · rintro w' ⟨s0, s1, s2, s3⟩
            go_simp
            with_reducible rfl
          rotate_left
          · simp only [Act.put, List.setIfInBounds_toArray, List.set_cons_zero, List.set_cons_succ, i64_w, i32_w]
            rfl
          refine take_ (i := 4) (N := some 40) (v := ?_) (a' := ?_) #[true, true, true, false, true, true, true, false, false, false, false, false, false, false, false, false, false, false, false] rfl rfl (take_ofW HT_.out HW_.out (by kernel_rfl)) (fun _ _ _ h => h) (Or.inl ⟨by rfl, ?_⟩) hHeld ?_ ?_
          rotate_left
          · rintro w' ⟨s0, s1, s2, s3⟩
            go_simp
            with_reducible rfl
          rotate_left
          · simp only [Act.put, List.setIfInBounds_toArray, List.set_cons_zero, List.set_cons_succ, i64_w, i32_w]
            rfl
          refine one_ (i := 3) (N := some 39) #[true, true, true, true, true, true, true, false, false, false, false, false, false, false, false, false, false, false, false] rfl rfl (one_of HT_.out (by kernel_rfl)) (by decide) (fun K hK => ?_)
          refine goes_ Tryd.func20 (by kernel_rfl) rfl #[.agg #[.slice Ao43 t196.length co43, .slice Ao45 t199.length co45, .bool t202, .string t203], .string a2, .string a3] (by rfl) rfl rfl (by (try simp only [List.map_toArray, List.map_cons, List.map_nil]); first | done | rfl | (simp only [List.length_drop, List.length_take]; rfl)) ?_
          with_reducible refine (acl_Granted.calls kj4 _ _ t196 _ _ t199 t202 t203 a2 a3 t205 _ ?side1 ?side2 ?side3 ?side4 A22.out ?sideL).mono ?_
          (case sideL => first | exact HL.out.below (by repeat (first | (with_reducible first | exact HB.out | apply below_alloc | apply pw_below_drewN | apply below_drew1) | exact HB.out)) | exact (HL.out.below (by repeat (first | (with_reducible first | exact HB.out | apply below_alloc | apply pw_below_drewN | apply below_drew1) | exact HB.out))).1 | exact (HL.out.below (by repeat (first | (with_reducible first | exact HB.out | apply below_alloc | apply pw_below_drewN | apply below_drew1) | exact HB.out))).2)
          (case side1 => repeat (first | exact (Kd.V_reads' HO198.out).2.2 | (with_reducible refine Kd.C_alloc ?_ _) | (with_reducible refine Kd.C_drewN ?_ _) | (with_reducible refine Kd.C_drew ?_)))
          (case side2 => exact (Kd.V_reads' HO198.out).2.1)
          (case side3 => repeat (first | exact (Kd.V_reads' HO201.out).2.2 | (with_reducible refine Kd.C_alloc ?_ _) | (with_reducible refine Kd.C_drewN ?_ _) | (with_reducible refine Kd.C_drew ?_)))
          (case side4 => exact (Kd.V_reads' HO201.out).2.1)
          rintro e w48 ⟨rfl, hb⟩
          refine ⟨_, rfl, ?_⟩
          have n0_ := Aside0.mk (Kd.V_below (by (with_reducible repeat (first | apply Kd.V_alloc | apply Kd.V_drewN | apply Kd.V_drew)); exact HO198.out) hb)
          have n1_ := Aside0.mk (Kd.V_below (by (with_reducible repeat (first | apply Kd.V_alloc | apply Kd.V_drewN | apply Kd.V_drew)); exact HO201.out) hb)
          have n2_ := Aside0.mk (blk_below (g := gb204) (o := .cells #[.slice Ao43 t196.length co43, .slice Ao45 t199.length co45, .bool t202, .string t203] 30 (0, 0)) (by (with_reducible repeat (first | refine blk_drewN ?_ _ | refine blk_drew ?_ | refine blk_alloc ?_ _)); exact BK204.out) hb)
          have n3_ := Aside0.mk (below_step (by repeat (first | (with_reducible first | exact HB.out | apply below_alloc | apply pw_below_drewN | apply below_drew1 | refine below_set ?_ GE204.out) | exact HB.out)) hb)
          clear HO198
          clear HO201
          clear BK204
          clear HB
          have HO198 := n0_
          have HO201 := n1_
          have BK204 := n2_
          have HB := n3_
          clear n0_ n1_ n2_ n3_
          (try clear hb)
          (try clear hb2)
          (try clear hk)
          (try clear hi)
          refine hK.out _ _ ⟨(blk_cell BK204.out 0).trans rfl, (blk_cell BK204.out 1).trans rfl, (blk_cell BK204.out 2).trans rfl, (blk_cell BK204.out 3).trans rfl⟩ (fun hHeld => ?_)
          clear hK K
          refine norm_ (a' := ?_) ?_ ?_
          rotate_left
          · show Act.put _ (some 39) _ = _
            simp only [Act.put, List.setIfInBounds_toArray, List.set_cons_zero, List.set_cons_succ, i64_w, i32_w]
            rfl
          refine one_ (i := 7) (N := some 43) #[true, true, true, true, true, true, true, true, false, false, false, false, false, false, false, false, false, false, false] rfl rfl (one_of HT_.out (by kernel_rfl)) (by decide) (fun K hK => ?_)
          refine goes_ Tryd.func21 (by kernel_rfl) rfl #[.agg #[.slice Ao43 t196.length co43, .slice Ao45 t199.length co45, .bool t202, .string t203], .string a2, .string a3] (by rfl) rfl rfl (by (try simp only [List.map_toArray, List.map_cons, List.map_nil]); first | done | rfl | (simp only [List.length_drop, List.length_take]; rfl)) ?_
          with_reducible refine (doorkeeperref22_Granted.calls kj4 _ _ t196 _ _ t199 t202 t203 a2 a3 t206 _ ?side1 ?side2 ?side3 ?side4 A23.out).mono ?_
          (case side1 => repeat (first | exact (Kd.V_reads' HO198.out).2.2 | (with_reducible refine Kd.C_alloc ?_ _) | (with_reducible refine Kd.C_drewN ?_ _) | (with_reducible refine Kd.C_drew ?_)))
          (case side2 => exact (Kd.V_reads' HO198.out).2.1)
          (case side3 => repeat (first | exact (Kd.V_reads' HO201.out).2.2 | (with_reducible refine Kd.C_alloc ?_ _) | (with_reducible refine Kd.C_drewN ?_ _) | (with_reducible refine Kd.C_drew ?_)))
          (case side4 => exact (Kd.V_reads' HO201.out).2.1)
          rintro e w49 ⟨rfl, hb⟩
          refine ⟨_, rfl, ?_⟩
          have n0_ := Aside0.mk (Kd.V_below (by (with_reducible repeat (first | apply Kd.V_alloc | apply Kd.V_drewN | apply Kd.V_drew)); exact HO198.out) hb)
          have n1_ := Aside0.mk (Kd.V_below (by (with_reducible repeat (first | apply Kd.V_alloc | apply Kd.V_drewN | apply Kd.V_drew)); exact HO201.out) hb)
          have n2_ := Aside0.mk (blk_below (g := gb204) (o := .cells #[.slice Ao43 t196.length co43, .slice Ao45 t199.length co45, .bool t202, .string t203] 30 (0, 0)) (by (with_reducible repeat (first | refine blk_drewN ?_ _ | refine blk_drew ?_ | refine blk_alloc ?_ _)); exact BK204.out) hb)
          have n3_ := Aside0.mk (below_step (by repeat (first | (with_reducible first | exact HB.out | apply below_alloc | apply pw_below_drewN | apply below_drew1 | refine below_set ?_ GE204.out) | exact HB.out)) hb)
          clear HO198
          clear HO201
          clear BK204
          clear HB
          have HO198 := n0_
          have HO201 := n1_
          have BK204 := n2_
          have HB := n3_
          clear n0_ n1_ n2_ n3_
          (try clear hb)
          (try clear hb2)
          (try clear hk)
          (try clear hi)
          refine hK.out _ _ ⟨(blk_cell BK204.out 0).trans rfl, (blk_cell BK204.out 1).trans rfl, (blk_cell BK204.out 2).trans rfl, (blk_cell BK204.out 3).trans rfl⟩ (fun hHeld => ?_)
          clear hK K
          refine norm_ (a' := ?_) ?_ ?_
          rotate_left
          · show Act.put _ (some 43) _ = _
            simp only [Act.put, List.setIfInBounds_toArray, List.set_cons_zero, List.set_cons_succ, i64_w, i32_w]
            rfl
          refine pure_ (i := 8) (N := some 44) (v := ?_) (a' := ?_) #[true, true, true, true, true, true, true, true, true, false, false, false, false, false, false, false, false, false, false] rfl rfl (any_of HT_.out (by kernel_rfl)) (fun _ _ _ h => h) (Or.inl ⟨by rfl, ?_⟩) ?_ ?_
          rotate_left
          · intro w'
            go_simp
            with_reducible rfl
          rotate_left
          · simp only [Act.put, List.setIfInBounds_toArray, List.set_cons_zero, List.set_cons_succ, i64_w, i32_w]
            rfl
          refine pure_ (i := 9) (N := some 45) (v := ?_) (a' := ?_) #[true, true, true, true, true, true, true, true, true, true, false, false, false, false, false, false, false, false, false] rfl rfl (any_of HT_.out (by kernel_rfl)) (fun _ _ _ h => h) (Or.inl ⟨by rfl, ?_⟩) ?_ ?_
          rotate_left
          · intro w'
            go_simp
            with_reducible rfl
          rotate_left
          · simp only [Act.put, List.setIfInBounds_toArray, List.set_cons_zero, List.set_cons_succ, i64_w, i32_w]
            rfl
          refine pure_ (i := 10) (N := some 46) (v := undef) (a' := ?_) #[true, true, true, true, true, true, true, true, true, true, true, false, false, false, false, false, false, false, false] rfl rfl (any_of HT_.out (by kernel_rfl)) (fun _ _ _ h => h) (Or.inr ⟨by rfl, rfl⟩) ?_ ?_
          rotate_left
          · simp only [Act.put, List.setIfInBounds_toArray, List.set_cons_zero, List.set_cons_succ, i64_w, i32_w]
            rfl
          refine pure_ (i := 11) (N := some 47) (v := undef) (a' := ?_) #[true, true, true, true, true, true, true, true, true, true, true, true, false, false, false, false, false, false, false] rfl rfl (any_of HT_.out (by kernel_rfl)) (fun _ _ _ h => h) (Or.inr ⟨by rfl, rfl⟩) ?_ ?_
          rotate_left
          · simp only [Act.put, List.setIfInBounds_toArray, List.set_cons_zero, List.set_cons_succ, i64_w, i32_w]
            rfl
          refine pure_ (i := 12) (N := some 48) (v := undef) (a' := ?_) #[true, true, true, true, true, true, true, true, true, true, true, true, true, false, false, false, false, false, false] rfl rfl (any_of HT_.out (by kernel_rfl)) (fun _ _ _ h => h) (Or.inr ⟨by rfl, rfl⟩) ?_ ?_
          rotate_left
          · simp only [Act.put, List.setIfInBounds_toArray, List.set_cons_zero, List.set_cons_succ, i64_w, i32_w]
            rfl
          refine pure_ (i := 13) (N := some 49) (v := undef) (a' := ?_) #[true, true, true, true, true, true, true, true, true, true, true, true, true, true, false, false, false, false, false] rfl rfl (any_of HT_.out (by kernel_rfl)) (fun _ _ _ h => h) (Or.inr ⟨by rfl, rfl⟩) ?_ ?_
          rotate_left
          · simp only [Act.put, List.setIfInBounds_toArray, List.set_cons_zero, List.set_cons_succ, i64_w, i32_w]
            rfl
          refine pure_ (i := 14) (N := some 50) (v := undef) (a' := ?_) #[true, true, true, true, true, true, true, true, true, true, true, true, true, true, true, false, false, false, false] rfl rfl (any_of HT_.out (by kernel_rfl)) (fun _ _ _ h => h) (Or.inr ⟨by rfl, rfl⟩) ?_ ?_
          rotate_left
          · simp only [Act.put, List.setIfInBounds_toArray, List.set_cons_zero, List.set_cons_succ, i64_w, i32_w]
            rfl
          refine pure_ (i := 15) (N := some 51) (v := undef) (a' := ?_) #[true, true, true, true, true, true, true, true, true, true, true, true, true, true, true, true, false, false, false] rfl rfl (any_of HT_.out (by kernel_rfl)) (fun _ _ _ h => h) (Or.inr ⟨by rfl, rfl⟩) ?_ ?_
          rotate_left
          · simp only [Act.put, List.setIfInBounds_toArray, List.set_cons_zero, List.set_cons_succ, i64_w, i32_w]
            rfl
          refine pure_ (i := 16) (N := some 52) (v := undef) (a' := ?_) #[true, true, true, true, true, true, true, true, true, true, true, true, true, true, true, true, true, false, false] rfl rfl (any_of HT_.out (by kernel_rfl)) (fun _ _ _ h => h) (Or.inr ⟨by rfl, rfl⟩) ?_ ?_
          rotate_left
          · simp only [Act.put, List.setIfInBounds_toArray, List.set_cons_zero, List.set_cons_succ, i64_w, i32_w]
            rfl
          refine pure_ (i := 17) (N := some 53) (v := ?_) (a' := ?_) #[true, true, true, true, true, true, true, true, true, true, true, true, true, true, true, true, true, true, false] rfl rfl (any_of HT_.out (by kernel_rfl)) (fun _ _ _ h => h) (Or.inl ⟨by rfl, ?_⟩) ?_ ?_
          rotate_left
          · intro w'
            go_simp
            with_reducible rfl
          rotate_left
          · simp only [Act.put, List.setIfInBounds_toArray, List.set_cons_zero, List.set_cons_succ, i64_w, i32_w]
            rfl
          refine pure_ (i := 18) (N := some 8) (v := ?_) (a' := ?_) #[true, true, true, true, true, true, true, true, true, true, true, true, true, true, true, true, true, true, true] rfl rfl (any_of HT_.out (by kernel_rfl)) (fun _ _ _ h => h) (Or.inl ⟨by rfl, ?_⟩) ?_ ?_
          rotate_left
          · intro w'
            go_simp
            with_reducible rfl
          rotate_left
          · simp only [Act.put, List.setIfInBounds_toArray, List.set_cons_zero, List.set_cons_succ, i64_w, i32_w]
            rfl
          refine done_ (done_of HT_.out (by kernel_rfl)) ?_
          try go_wp2
          go_ret
          exact ⟨by first | rfl | (simp [errW_none, errW_some] <;> rfl) | (simp [*, errW_none, errW_some] <;> rfl), by repeat (first | (with_reducible first | exact HB.out | apply below_alloc | apply pw_below_drewN | apply below_drew1 | refine below_set ?_ GE204.out) | exact HB.out)⟩

end Go.Proofs.YtjapmlfjlojbeaaDoor.PA
