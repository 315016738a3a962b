/- For every input the law DecidePaths returns true, and its arguments read afterwards as before; and the given card, which ties the laid variables to the program's text. Conditions: none beyond the given row's. -/
import Derived.Test.YtjapmlfjlojbeaaDoorTie
import Derived.Test.YtjapmlfjlojbeaaDoorCards
import Derived.Test.YtjapmlfjlojbeaaDoorRL
import Derived.Test.YtjapmlfjlojbeaaDoorLQ
import Derived.WalkKit
import Derived.ProofKit
import Derived.OpenShut
import Derived.ShutString
import Derived.ChangeOld
import Derived.Below
import Derived.SizedLaws
import Derived.SliceStrings
import Derived.Carry
namespace Go.Proofs.YtjapmlfjlojbeaaDoor.decidePaths
open Go.ChangeShapes Go.WideShapes Go.ChangeAt Go.RowKit Go.Proofs.YtjapmlfjlojbeaaDoorW.PrintWords PA
open Go.ChangeMaps (open_string shut_string)
set_option linter.unusedVariables false
theorem own : ownKnob Tryd.prog.godebug = none := by kernel_rfl
theorem laidOut : laidOutB Tryd.prog = true := by kernel_rfl
set_option maxRecDepth 100000 in
theorem lifted (os : Os) (started : os.Started) (H : Type) (enc : TypeId × Value → H) :
    ReturnsInHanded {} Tryd.checked os 9 .any (fun w args => (Rows.decidePathsSpec.pre enc Tryd.prog Tryd.f9 [] false w args ∧ laidMetH Tryd.prog [("doorkeeper/reqline.others", Rows.laid_doorkeeper_reqline_others), ("doorkeeper/decide.names", Rows.laid_doorkeeper_decide_names)] w) ∧ sizedMet enc Tryd.prog Tryd.f9 (OpenSpec.ofChange Rows.decidePathsSpec) false w args)
      (Rows.decidePathsSpec.post enc Tryd.prog Tryd.f9 false true false false) := by
  refine returnsInHanded_of_change_and (C := Tryd.checked) (X := fun w _ => laidMetH Tryd.prog [("doorkeeper/reqline.others", Rows.laid_doorkeeper_reqline_others), ("doorkeeper/decide.names", Rows.laid_doorkeeper_decide_names)] w) (fun _ _ _ hh h => h.of_heap hh) own started (by kernel_rfl) Tryd.func9
    (ChangeSpec.witness_shaped (enc := enc) (C := Tryd.checked) (os := os) (X := fun w _ => laidMetH Tryd.prog [("doorkeeper/reqline.others", Rows.laid_doorkeeper_reqline_others), ("doorkeeper/decide.names", Rows.laid_doorkeeper_decide_names)] w) false (World.doorLaid Tryd.prog 400 os) #[.agg #[.slice none 0 0, .slice none 0 0, .slice none 0 0], .slice none 0 0, .string ⟨#[]⟩, .string ⟨#[]⟩] 8 rfl (World.shaped_of_RefB (by kernel_rfl) (by kernel_rfl)) (by kernel_rfl) (by kernel_rfl) (by kernel_rfl) (door_met2 os _)) ?_
  intro W base args ds gs before hval0 hW _ _ hL _
  have hval : ∀ (j : Nat) t v, Tryd.f9.params[j]? = some t → args[j]? = some v → Value.okWide Tryd.prog W .any base t v := hval0
  have hW' := hW
  obtain ⟨p, q, hA0, hV, rfl, hfz, hnd⟩ := hW
  have hA : DataW.TrodAll enc Tryd.prog W 0 (fun _ => true) true Tryd.f9.params.toList args.toList ds p := hA0
  rw [Tryd.params9] at hA hval
  obtain ⟨v0, vs0, d0, ds0, p0, q0, hargs, rfl, rfl, h0, r0⟩ := trodAll_cons hA
  obtain ⟨v1, vs1, d1, ds1, p1, q1, rfl, rfl, rfl, h1, r1⟩ := trodAll_cons r0
  obtain ⟨v2, vs2, d2, ds2, p2, q2, rfl, rfl, rfl, h2, r2⟩ := trodAll_cons r1
  obtain ⟨v3, vs3, d3, ds3, p3, q3, rfl, rfl, rfl, h3, r3⟩ := trodAll_cons r2
  obtain ⟨rfl, rfl, rfl⟩ := trodAll_nil r3
  obtain rfl : args = #[v0, v1, v2, v3] := by cases args; simp_all
  obtain ⟨rfl, rfl⟩ := trodVars_none hV
  have hLd := of_laid2 hL
  have k0 := h0
  have lt0 : ∀ x ∈ p0, x.block < W.heap.size := by obtain ⟨m, hm⟩ := k0; exact DataW.trod_lt m _ _ _ hm
  obtain ⟨A0_0, c0_0, l0_0, A0_1, c0_1, l0_1, A0_2, c0_2, l0_2, rfl, hc0_0, hr0_0, hc0_1, hr0_1, hc0_2, hr0_2⟩ : ∃ (A0 : Option Addr) (k0 : Nat) (l0 : List ByteArray) (A1 : Option Addr) (k1 : Nat) (l1 : List ByteArray) (A2 : Option Addr) (k2 : Nat) (l2 : List S30), v0 = .agg #[.slice A0 l0.length k0, .slice A1 l1.length k1, .slice A2 l2.length k2] ∧ l0.length ≤ k0 ∧ Kd.C Kd.string W A0 l0.length l0 ∧ l1.length ≤ k1 ∧ Kd.C Kd.string W A1 l1.length l1 ∧ l2.length ≤ k2 ∧ Kd.C k30 W A2 l2.length l2 := by
    obtain ⟨fuel, hf⟩ := h0
    obtain ⟨B0, y0, m0, B1, y1, m1, B2, y2, m2, e, j1, j2, j3, j4, j5, j6⟩ := rd_host hf
    obtain ⟨⟨cs⟩, rfl, _⟩ := okWide_struct Tryd.underlying50 (hval 0 50 v0 rfl rfl)
    exact ⟨B0, y0, m0, B1, y1, m1, B2, y2, m2, by simpa [Value.cells] using e, j1, j2, j3, j4, j5, j6⟩
  clear h0
  obtain ⟨x1, len1, cap1, rfl⟩ := okWide_slice Tryd.underlying23 (hval 1 23 v1 rfl rfl)
  have k1 := h1
  have lt1 : ∀ x ∈ p1, x.block < W.heap.size := by obtain ⟨m, hm⟩ := k1; exact DataW.trod_lt m _ _ _ hm
  obtain ⟨a1, c1, l1, e1, hc1, hr1⟩ : ∃ (A : Option Addr) (c : Nat) (l : List _), Value.slice x1 len1 cap1 = .slice A l.length c ∧ l.length ≤ c ∧ Kd.C Kd.string W A l.length l := by
    obtain ⟨fuel, hf⟩ := h1
    obtain ⟨A, c, l, e, h1, h2⟩ := rd_strs hf
    simp [Value.cells] at e
    exact ⟨A, c, l, by simp [e], h1, h2⟩
  rw [e1] at k1
  have e1' := e1
  clear h1
  obtain ⟨s2, rfl, rfl, rfl, z2⟩ := open_string Tryd.underlying9 (hval 2 9 v2 rfl rfl) h2
  obtain ⟨s3, rfl, rfl, rfl, z3⟩ := open_string Tryd.underlying9 (hval 3 9 v3 rfl rfl) h3
  clear hA0 hval0
  rw [e1] at hW' ⊢
  obtain ⟨k, hk⟩ := (paths_ev l0_0 l0_1 l0_2 l1 s2 s3 hr0_2.2.1 hr1.2.1).rounds
  refine (doorkeeperlaw23_DecidePaths.calls k A0_0 c0_0 l0_0 A0_1 c0_1 l0_1 A0_2 c0_2 l0_2 a1 c1 l1 s2 s3 true W hr0_0 hc0_0 hr0_1 hc0_1 hr0_2 hc0_2 hr1 hc1 hk hLd).mono fun e W' ⟨he, bel⟩ => ?_
  subst he
  exact ⟨_, rfl, _, _, _, [], _, [], hW', trodAll_mk1 (shut_bool Tryd.underlying4 _), (trodAll_cons_mk (Below.trod laidOut (by kernel_rfl) (of_decide_eq_true (by kernel_rfl)) k0 bel lt0) (trodAll_cons_mk (Below.trod laidOut (by kernel_rfl) (of_decide_eq_true (by kernel_rfl)) k1 bel lt1) (trodAll_cons_mk (shut_string Tryd.underlying9 z2) (trodAll_cons_mk (shut_string Tryd.underlying9 z3) trodAll_mk0)))), rfl, bel.frame _, fun h => by cases h⟩

theorem over : Rows.DecidePathsSaid :=
  OpenClaim.holds_of_wide 9 Tryd.f9 rfl rfl rfl rfl rfl rfl rfl ⟨rfl, rfl, rfl, rfl, rfl⟩ rfl rfl rfl rfl rfl (by kernel_rfl) Tryd.func9 (by kernel_rfl)
    (of_decide_eq_true (by kernel_rfl)) (by unfold Func.isWrapper; first | (rw [if_pos (by decide +kernel)]; kernel_rfl) | (rw [if_neg (by decide +kernel)]; exact ⟨rfl, rfl⟩))
    (fun os started H enc _ => lifted os started H enc)
end Go.Proofs.YtjapmlfjlojbeaaDoor.decidePaths
namespace Go.Proofs.YtjapmlfjlojbeaaDoor
open Go
/-- The given card. -/
theorem decidePaths_card_holds : Rows.DecidePathsCardSaid :=
  Claim7.holds_tied_plain_at .later [] [.widerDeep, .data] true (true, "a91ba2a43eb55a3d2a741b1258f212b481ad93983ceaae8ddafc301cdfb20354") false
    decidePaths.over (fun _ h => by cases h) (by kernel_rfl) (fun _ h => by cases h) decidePaths_row_tie rfl ⟨rfl, rfl⟩ (by kernel_rfl) rfl
    (fun f fn hf hfn => by
      obtain rfl : f = 9 := Option.some.inj ((show Tryd.prog.funcNamed "doorkeeper/doorkeeperlaw23.DecidePaths" = some 9 by kernel_rfl).symm.trans hf) |>.symm
      obtain rfl : fn = Tryd.f9 := (Option.some.inj (Tryd.func9.symm.trans hfn)).symm
      exact ⟨by kernel_rfl, fun j t ht => by
        rw [Tryd.params9] at ht
        have hm : t ∈ [50, 23, 9, 9] := by simpa using Array.mem_of_getElem? ht
        have hall : ([50, 23, 9, 9].all fun u => !Tryd.prog.wantsStandIn u) = true := by kernel_rfl
        exact (show Tryd.prog.wantsStandIn t = false by simpa using List.all_eq_true.1 hall t hm)⟩)
    (by kernel_rfl)
#print axioms decidePaths_card_holds
end Go.Proofs.YtjapmlfjlojbeaaDoor
