/- For every input the law DecideMore returns true, and its arguments read afterwards as before; and the given card, which ties the laid variables to the program's text. Conditions: none beyond the given row's. -/
import Derived.Test.YtjapmlfjlojbeaaDoorTie
import Derived.Test.YtjapmlfjlojbeaaDoorCards
import Derived.Test.YtjapmlfjlojbeaaDoorRL
import Derived.Test.YtjapmlfjlojbeaaDoorLX
import Derived.WalkKit
import Derived.ProofKit
import Derived.OpenShut
import Derived.ShutString
import Derived.ChangeOld
import Derived.Below
import Derived.SizedLaws
import Derived.SliceStrings
import Derived.Carry
namespace Go.Proofs.YtjapmlfjlojbeaaDoor.decideMore
open Go.ChangeShapes Go.WideShapes Go.ChangeAt Go.RowKit Go.Proofs.YtjapmlfjlojbeaaDoorW.PrintWords PA
open Go.ChangeMaps (open_string shut_string)
set_option linter.unusedVariables false
theorem own : ownKnob Tryd.prog.godebug = none := by kernel_rfl
theorem laidOut : laidOutB Tryd.prog = true := by kernel_rfl
set_option maxRecDepth 100000 in
theorem lifted (os : Os) (started : os.Started) (H : Type) (enc : TypeId × Value → H) :
    ReturnsInHanded {} Tryd.checked os 11 .any (fun w args => (Rows.decideMoreSpec.pre enc Tryd.prog Tryd.f11 [] false w args ∧ laidMetH Tryd.prog [("doorkeeper/reqline.others", Rows.laid_doorkeeper_reqline_others), ("doorkeeper/decide.names", Rows.laid_doorkeeper_decide_names)] w) ∧ sizedMet enc Tryd.prog Tryd.f11 (OpenSpec.ofChange Rows.decideMoreSpec) false w args)
      (Rows.decideMoreSpec.post enc Tryd.prog Tryd.f11 false true false false) := by
  refine returnsInHanded_of_change_and (C := Tryd.checked) (X := fun w _ => laidMetH Tryd.prog [("doorkeeper/reqline.others", Rows.laid_doorkeeper_reqline_others), ("doorkeeper/decide.names", Rows.laid_doorkeeper_decide_names)] w) (fun _ _ _ hh h => h.of_heap hh) own started (by kernel_rfl) Tryd.func11
    (ChangeSpec.witness_shaped (enc := enc) (C := Tryd.checked) (os := os) (X := fun w _ => laidMetH Tryd.prog [("doorkeeper/reqline.others", Rows.laid_doorkeeper_reqline_others), ("doorkeeper/decide.names", Rows.laid_doorkeeper_decide_names)] w) false (World.doorLaid Tryd.prog 400 os) #[.agg #[.slice none 0 0, .slice none 0 0, .bool false, .string ⟨#[]⟩], .agg #[.string ⟨#[]⟩, .bool false, .bool false], .string ⟨#[]⟩, .string ⟨#[]⟩] 8 rfl (World.shaped_of_RefB (by kernel_rfl) (by kernel_rfl)) (by kernel_rfl) (by kernel_rfl) (by kernel_rfl) (door_met2 os _)) ?_
  intro W base args ds gs before hval0 hW _ _ hL _
  have hval : ∀ (j : Nat) t v, Tryd.f11.params[j]? = some t → args[j]? = some v → Value.okWide Tryd.prog W .any base t v := hval0
  have hW' := hW
  obtain ⟨p, q, hA0, hV, rfl, hfz, hnd⟩ := hW
  have hA : DataW.TrodAll enc Tryd.prog W 0 (fun _ => true) true Tryd.f11.params.toList args.toList ds p := hA0
  rw [Tryd.params11] at hA hval
  obtain ⟨v0, vs0, d0, ds0, p0, q0, hargs, rfl, rfl, h0, r0⟩ := trodAll_cons hA
  obtain ⟨v1, vs1, d1, ds1, p1, q1, rfl, rfl, rfl, h1, r1⟩ := trodAll_cons r0
  obtain ⟨v2, vs2, d2, ds2, p2, q2, rfl, rfl, rfl, h2, r2⟩ := trodAll_cons r1
  obtain ⟨v3, vs3, d3, ds3, p3, q3, rfl, rfl, rfl, h3, r3⟩ := trodAll_cons r2
  obtain ⟨rfl, rfl, rfl⟩ := trodAll_nil r3
  obtain rfl : args = #[v0, v1, v2, v3] := by cases args; simp_all
  obtain ⟨rfl, rfl⟩ := trodVars_none hV
  have hLd := of_laid2 hL
  have k0 := h0
  have lt0 : ∀ x ∈ p0, x.block < W.heap.size := by obtain ⟨m, hm⟩ := k0; exact DataW.trod_lt m _ _ _ hm
  obtain ⟨x0, A0_0, c0_0, A0_1, c0_1, rfl, hc0_0, hr0_0, hc0_1, hr0_1⟩ : ∃ (x : S30) (A0 : Option Addr) (c0 : Nat) (A1 : Option Addr) (c1 : Nat), v0 = .agg #[.slice A0 x.f0.length c0, .slice A1 x.f1.length c1, .bool x.f2, .string x.f3] ∧ x.f0.length ≤ c0 ∧ Kd.C Kd.string W A0 x.f0.length x.f0 ∧ x.f1.length ≤ c1 ∧ Kd.C k39 W A1 x.f1.length x.f1 := by
    obtain ⟨fuel, hf⟩ := h0
    obtain ⟨x, A0, c0, A1, c1, e, h1, h2, h3, h4⟩ := rd_rule hf
    obtain ⟨⟨cs⟩, rfl, _⟩ := okWide_struct Tryd.underlying30 (hval 0 30 v0 rfl rfl)
    exact ⟨x, A0, c0, A1, c1, by simpa [Value.cells] using e, h1, h2, h3, h4⟩
  clear h0
  have k1 := h1
  have lt1 : ∀ x ∈ p1, x.block < W.heap.size := by obtain ⟨m, hm⟩ := k1; exact DataW.trod_lt m _ _ _ hm
  obtain ⟨x1, rfl⟩ : ∃ x : S39, v1 = .agg #[.string x.f0, .bool x.f1, .bool x.f2] := by
    obtain ⟨fuel, hf⟩ := h1
    obtain ⟨x, e⟩ := rd_grant hf
    obtain ⟨⟨cs⟩, rfl, _⟩ := okWide_struct Tryd.underlying39 (hval 1 39 v1 rfl rfl)
    exact ⟨x, by simpa [Value.cells] using k39_open e⟩
  clear h1
  obtain ⟨s2, rfl, rfl, rfl, z2⟩ := open_string Tryd.underlying9 (hval 2 9 v2 rfl rfl) h2
  obtain ⟨s3, rfl, rfl, rfl, z3⟩ := open_string Tryd.underlying9 (hval 3 9 v3 rfl rfl) h3
  clear hA0 hval0
  obtain ⟨k, hk⟩ := (more_ev x0.f0 x0.f1 x0.f2 x0.f3 x1.f0 x1.f1 x1.f2 s2 s3).rounds
  refine (doorkeeperlaw23_DecideMore.calls k A0_0 c0_0 x0.f0 A0_1 c0_1 x0.f1 x0.f2 x0.f3 x1.f0 x1.f1 x1.f2 s2 s3 true W hr0_0 hc0_0 hr0_1 hc0_1 hk hLd rfl).mono fun e W' ⟨he, bel⟩ => ?_
  subst he
  exact ⟨_, rfl, _, _, _, [], _, [], hW', trodAll_mk1 (shut_bool Tryd.underlying4 _), (trodAll_cons_mk (Below.trod laidOut (by kernel_rfl) (of_decide_eq_true (by kernel_rfl)) k0 bel lt0) (trodAll_cons_mk (Below.trod laidOut (by kernel_rfl) (of_decide_eq_true (by kernel_rfl)) k1 bel lt1) (trodAll_cons_mk (shut_string Tryd.underlying9 z2) (trodAll_cons_mk (shut_string Tryd.underlying9 z3) trodAll_mk0)))), rfl, bel.frame _, fun h => by cases h⟩

theorem over : Rows.DecideMoreSaid :=
  OpenClaim.holds_of_wide 11 Tryd.f11 rfl rfl rfl rfl rfl rfl rfl ⟨rfl, rfl, rfl, rfl, rfl⟩ rfl rfl rfl rfl rfl (by kernel_rfl) Tryd.func11 (by kernel_rfl)
    (of_decide_eq_true (by kernel_rfl)) (by unfold Func.isWrapper; first | (rw [if_pos (by decide +kernel)]; kernel_rfl) | (rw [if_neg (by decide +kernel)]; exact ⟨rfl, rfl⟩))
    (fun os started H enc _ => lifted os started H enc)
end Go.Proofs.YtjapmlfjlojbeaaDoor.decideMore
namespace Go.Proofs.YtjapmlfjlojbeaaDoor
open Go
/-- The given card. -/
theorem decideMore_card_holds : Rows.DecideMoreCardSaid :=
  Claim7.holds_tied_plain_at .later [] [.widerDeep, .data] true (true, "a91ba2a43eb55a3d2a741b1258f212b481ad93983ceaae8ddafc301cdfb20354") false
    decideMore.over (fun _ h => by cases h) (by kernel_rfl) (fun _ h => by cases h) decideMore_row_tie rfl ⟨rfl, rfl⟩ (by kernel_rfl) rfl
    (fun f fn hf hfn => by
      obtain rfl : f = 11 := Option.some.inj ((show Tryd.prog.funcNamed "doorkeeper/doorkeeperlaw23.DecideMore" = some 11 by kernel_rfl).symm.trans hf) |>.symm
      obtain rfl : fn = Tryd.f11 := (Option.some.inj (Tryd.func11.symm.trans hfn)).symm
      exact ⟨by kernel_rfl, fun j t ht => by
        rw [Tryd.params11] at ht
        have hm : t ∈ [30, 39, 9, 9] := by simpa using Array.mem_of_getElem? ht
        have hall : ([30, 39, 9, 9].all fun u => !Tryd.prog.wantsStandIn u) = true := by kernel_rfl
        exact (show Tryd.prog.wantsStandIn t = false by simpa using List.all_eq_true.1 hall t hm)⟩)
    (by kernel_rfl)
#print axioms decideMore_card_holds
end Go.Proofs.YtjapmlfjlojbeaaDoor
